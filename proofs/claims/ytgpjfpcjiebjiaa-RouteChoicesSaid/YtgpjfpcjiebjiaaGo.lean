/- Walks: two regions of Made as theorems of their own. -/
import Derived.Test.YtgpjfpcjiebjiaaGn
import Derived.Deep.AppendLies
namespace Go.Proofs.Ytgpjfpcjiebjiaa
open Go.RowKit
set_option linter.unusedVariables false
set_option linter.unusedSimpArgs false
attribute [local go_sem ↓] Go.wp_at_zero Go.wp_at_succ

theorem strAt {W : World} {g t : Nat} {a b c : ByteArray} (hb : Blk W g 9 #[.string a, .string b, .string c]) (ht : t < 3) : ∃ s, W.cell? ⟨g, t, none⟩ = some (.string s) := by
 match t, ht with
 | 0, _ => exact ⟨_, hb.cell (k := 0) rfl⟩
 | 1, _ => exact ⟨_, hb.cell (k := 1) rfl⟩
 | 2, _ => exact ⟨_, hb.cell (k := 2) rfl⟩

/-- A region of a code, by its number. -/
def findReg (n : Nat) : Code → Option Code
 | .region id ops d => if id = n then some (.region id ops d) else none
 | .seq a b => match findReg n a with
  | some c => some c
  | none => findReg n b
 | .cond _ a b => match findReg n a with
  | some c => some c
  | none => findReg n b
 | .block _ c => findReg n c
 | .loop c => findReg n c
 | _ => none
noncomputable def code38 : Code := (Try.f46.body.bind (findReg 38)).getD .skip
noncomputable def code16 : Code := (Try.f46.body.bind (findReg 16)).getD .skip
noncomputable def code18 : Code := (Try.f46.body.bind (findReg 18)).getD .skip
noncomputable def code20 : Code := (Try.f46.body.bind (findReg 20)).getD .skip
noncomputable def code42 : Code := (Try.f46.body.bind (findReg 42)).getD .skip

set_option maxHeartbeats 4000000 in
set_option maxRecDepth 1000000 in
theorem r38_wp {wr : World} {Q : Exit → Act → World → Prop} {gm gT gF gb a k t n lfn cT cF cb : Nat} {v1 v2 : Value} {b3 b4 bo : Bool} {u0 u1 u2 u3 u5 u6 u7 u8 u9 u10 u11 u13 u15 u16 u17 u18 u19 u20 u21 u22 u23 u24 u25 u26 u27 u28 u29 u30 u31 u32 u33 u34 u35 u36 u37 u38 u39 u40 u41 u42 u43 u44 u45 u46 u47 u48 u49 u50 u51 u52 u53 u54 u55 u56 u57 u58 u59 u60 u61 u62 u63 u64 u65 u66 u67 u68 u69 u70 u71 u72 u73 u74 u75 u76 u77 u78 u79 u80 u81 u82 u83 u84 u85 u86 u87 u88 u89 u90 u91 u92 u93 u94 u95 u96 u97 u98 u99 u100 u101 u102 u103 u104 u105 u106 u107 u108 u109 u110 u111 u112 u113 u114 u115 u116 u117 u118 u119 u120 u121 u122 u123 u124 u125 u126 u127 u128 u129 u130 u131 u132 u133 u134 u135 u136 u137 u138 u139 u140 u141 u142 u143 u144 u145 u146 u147 u148 u149 u150 u151 u152 u153 u154 u155 u156 u157 u158 u159 u160 u161 u162 u163 u164 u165 u166 u167 u168 u169 u170 u171 u172 u173 u174 u175 u176 u177 u178 u179 u180 u181 u182 u183 u184 u185 u186 u187 u188 u189 u190 u191 u192 u193 u194 u195 u196 u197 u198 u199 u200 u201 u202 u203 u204 u205 u206 u207 u208 u209 u210 u211 u212 u213 u214 u215 u216 u217 u218 u219 : Value}
  (ha0 : (0 : Int) ≤ (a : Int) ∧ (a : Int) < (t : Int)) (hk0 : (0 : Int) ≤ (k : Int) ∧ (k : Int) < (n : Int)) (hcF : t ≤ cF) (hcb : lfn ≤ cb) (hlf0 : (k : Int) < (lfn : Int))
  (r5 : ∀ W, SB wr W → W.cell? ⟨gm, 5, none⟩ = some (.slice (some ⟨gT, 0, none⟩) t cT)) (r3 : ∀ W, SB wr W → W.cell? ⟨gm, 3, none⟩ = some (.slice (some ⟨gF, 0, none⟩) t cF))
  (ra1 : ∀ W, SB wr W → W.cell? ⟨gT, a * 3 + 1, none⟩ = some v1) (ra2 : ∀ W, SB wr W → W.cell? ⟨gT, a * 3 + 2, none⟩ = some v2) (rf1 : ∀ W, SB wr W → W.cell? ⟨gF, a, none⟩ = some (.slice (some ⟨gb, 0, none⟩) lfn cb))
  (hcc : wr.cell? ⟨gb, k, none⟩ = some (.bool bo)) (hfb : ∀ j, wr.frozen? ⟨gb, j, none⟩ = false)
  (HB3 : Hid (∀ W, Ext wr W → Calls Try.prog 36 #[v1, .int .i64 (k : Int)] W fun e w' => e = .returned (.bool b3) ∧ W = w')) (HB4 : Hid (∀ W, Ext wr W → Calls Try.prog 36 #[v2, .int .i64 (k : Int)] W fun e w' => e = .returned (.bool b4) ∧ W = w'))
  (HSS : Hid (∀ W x, SB wr W → SB wr (W.setCell ⟨gb, k, none⟩ x)))
  (hP : ∀ c (a a' : Act) w, a.defers = a'.defers → Q (.panic c) a w → Q (.panic c) a' w)
  (hQ : ∀ (b' : Bool) (x181 x182 x183 x184 x185 x186 x187 x188 x189 x190 x191 x192 x193 x194 x195 x196 x197 x198 x199 x200 x201 x202 x203 x204 x205 : Value), Q .normal ⟨(u0 :: u1 :: u2 :: u3 :: Value.pointer (some ⟨gm, 0, none⟩) :: u5 :: u6 :: u7 :: u8 :: u9 :: u10 :: u11 :: Value.int .i64 (a : Nat) :: u13 :: Value.int .i64 (k : Nat) :: u15 :: u16 :: u17 :: u18 :: u19 :: u20 :: u21 :: u22 :: u23 :: u24 :: u25 :: u26 :: u27 :: u28 :: u29 :: u30 :: u31 :: u32 :: u33 :: u34 :: u35 :: u36 :: u37 :: u38 :: u39 :: u40 :: u41 :: u42 :: u43 :: u44 :: u45 :: u46 :: u47 :: u48 :: u49 :: u50 :: u51 :: u52 :: u53 :: u54 :: u55 :: u56 :: u57 :: u58 :: u59 :: u60 :: u61 :: u62 :: u63 :: u64 :: u65 :: u66 :: u67 :: u68 :: u69 :: u70 :: u71 :: u72 :: u73 :: u74 :: u75 :: u76 :: u77 :: u78 :: u79 :: u80 :: u81 :: u82 :: u83 :: u84 :: u85 :: u86 :: u87 :: u88 :: u89 :: u90 :: u91 :: u92 :: u93 :: u94 :: u95 :: u96 :: u97 :: u98 :: u99 :: u100 :: u101 :: u102 :: u103 :: u104 :: u105 :: u106 :: u107 :: u108 :: u109 :: u110 :: u111 :: u112 :: u113 :: u114 :: u115 :: u116 :: u117 :: u118 :: u119 :: u120 :: u121 :: u122 :: u123 :: u124 :: u125 :: u126 :: u127 :: u128 :: u129 :: u130 :: u131 :: u132 :: u133 :: u134 :: u135 :: u136 :: u137 :: u138 :: u139 :: u140 :: u141 :: u142 :: u143 :: u144 :: u145 :: u146 :: u147 :: u148 :: u149 :: u150 :: u151 :: u152 :: u153 :: u154 :: u155 :: u156 :: u157 :: u158 :: u159 :: u160 :: u161 :: u162 :: u163 :: u164 :: u165 :: u166 :: u167 :: u168 :: u169 :: u170 :: u171 :: u172 :: u173 :: u174 :: u175 :: u176 :: u177 :: u178 :: u179 :: u180 :: x181 :: x182 :: x183 :: x184 :: x185 :: x186 :: x187 :: x188 :: x189 :: x190 :: x191 :: x192 :: x193 :: x194 :: x195 :: x196 :: x197 :: x198 :: x199 :: x200 :: x201 :: x202 :: x203 :: x204 :: x205 :: u206 :: u207 :: u208 :: u209 :: u210 :: u211 :: u212 :: u213 :: u214 :: u215 :: u216 :: u217 :: u218 :: u219 :: []).toArray, []⟩ (wr.drew.setCell ⟨gb, k, none⟩ (.bool b'))) :
  code38.wp Try.prog Q ⟨(u0 :: u1 :: u2 :: u3 :: Value.pointer (some ⟨gm, 0, none⟩) :: u5 :: u6 :: u7 :: u8 :: u9 :: u10 :: u11 :: Value.int .i64 (a : Nat) :: u13 :: Value.int .i64 (k : Nat) :: u15 :: u16 :: u17 :: u18 :: u19 :: u20 :: u21 :: u22 :: u23 :: u24 :: u25 :: u26 :: u27 :: u28 :: u29 :: u30 :: u31 :: u32 :: u33 :: u34 :: u35 :: u36 :: u37 :: u38 :: u39 :: u40 :: u41 :: u42 :: u43 :: u44 :: u45 :: u46 :: u47 :: u48 :: u49 :: u50 :: u51 :: u52 :: u53 :: u54 :: u55 :: u56 :: u57 :: u58 :: u59 :: u60 :: u61 :: u62 :: u63 :: u64 :: u65 :: u66 :: u67 :: u68 :: u69 :: u70 :: u71 :: u72 :: u73 :: u74 :: u75 :: u76 :: u77 :: u78 :: u79 :: u80 :: u81 :: u82 :: u83 :: u84 :: u85 :: u86 :: u87 :: u88 :: u89 :: u90 :: u91 :: u92 :: u93 :: u94 :: u95 :: u96 :: u97 :: u98 :: u99 :: u100 :: u101 :: u102 :: u103 :: u104 :: u105 :: u106 :: u107 :: u108 :: u109 :: u110 :: u111 :: u112 :: u113 :: u114 :: u115 :: u116 :: u117 :: u118 :: u119 :: u120 :: u121 :: u122 :: u123 :: u124 :: u125 :: u126 :: u127 :: u128 :: u129 :: u130 :: u131 :: u132 :: u133 :: u134 :: u135 :: u136 :: u137 :: u138 :: u139 :: u140 :: u141 :: u142 :: u143 :: u144 :: u145 :: u146 :: u147 :: u148 :: u149 :: u150 :: u151 :: u152 :: u153 :: u154 :: u155 :: u156 :: u157 :: u158 :: u159 :: u160 :: u161 :: u162 :: u163 :: u164 :: u165 :: u166 :: u167 :: u168 :: u169 :: u170 :: u171 :: u172 :: u173 :: u174 :: u175 :: u176 :: u177 :: u178 :: u179 :: u180 :: u181 :: u182 :: u183 :: u184 :: u185 :: u186 :: u187 :: u188 :: u189 :: u190 :: u191 :: u192 :: u193 :: u194 :: u195 :: u196 :: u197 :: u198 :: u199 :: u200 :: u201 :: u202 :: u203 :: u204 :: u205 :: u206 :: u207 :: u208 :: u209 :: u210 :: u211 :: u212 :: u213 :: u214 :: u215 :: u216 :: u217 :: u218 :: u219 :: []).toArray, []⟩ wr := by
 conv => arg 2; whnf
 cases b3 with
 | true =>
  refine wp_region_held_drew (S := fun W => SB wr W) mixedA (SB.drew wr) (fun hHeld => ?_)
  refine wpAnyH_take (i := 0) (v := ?v157) rfl (by kernel_rfl) (by kernel_rfl) (by kernel_rfl) (fun _ _ _ h => hP _ _ _ _ (by rfl) h) (Or.inl ⟨?w157, ?y157⟩) hHeld ?r157
  case w157 => rfl
  case y157 => (intro w hSw; go_simp; try with_reducible rfl)
  simp only [rtPr, Act.put]
  refine wpAnyH_take (i := 1) (v := ?v158) rfl (by kernel_rfl) (by kernel_rfl) (by kernel_rfl) (fun _ _ _ h => hP _ _ _ _ (by rfl) h) (Or.inl ⟨?w158, ?y158⟩) hHeld ?r158
  case w158 => rfl
  case y158 => (intro w hSw; go_simp; try with_reducible rfl)
  simp only [rtPr, Act.put]
  refine wpAnyH_take (i := 2) (v := ?v159) rfl (by kernel_rfl) (by kernel_rfl) (by kernel_rfl) (fun _ _ _ h => hP _ _ _ _ (by rfl) h) (Or.inl ⟨?w159, ?y159⟩) hHeld ?r159
  case w159 => rfl
  case y159 => (intro w hSw; go_simp; try with_reducible rfl)
  simp only [rtPr, Act.put]
  refine wpAnyH_take (i := 3) (v := ?v160) rfl (by kernel_rfl) (by kernel_rfl) (by kernel_rfl) (fun _ _ _ h => hP _ _ _ _ (by rfl) h) (Or.inl ⟨?w160, ?y160⟩) hHeld ?r160
  case w160 => rfl
  case y160 => (intro w hSw; go_simp; try with_reducible rfl)
  simp only [rtPr, Act.put]
  refine wpAnyH_take (i := 4) (v := ?v161) rfl (by kernel_rfl) (by kernel_rfl) (by kernel_rfl) (fun _ _ _ h => hP _ _ _ _ (by rfl) h) (Or.inl ⟨?w161, ?y161⟩) hHeld ?r161
  case w161 => rfl
  case y161 => (intro w hSw; go_simp; try with_reducible rfl)
  simp only [rtPr, Act.put]
  refine wpAnyH_take (i := 5) (v := ?v162) rfl (by kernel_rfl) (by kernel_rfl) (by kernel_rfl) (fun _ _ _ h => hP _ _ _ _ (by rfl) h) (Or.inl ⟨?w162, ?y162⟩) hHeld ?r162
  case w162 => rfl
  case y162 => (intro w hSw; go_simp; try with_reducible rfl)
  simp only [rtPr, Act.put]
  refine wpAnyH_take (i := 6) (v := ?v163) rfl (by kernel_rfl) (by kernel_rfl) (by kernel_rfl) (fun _ _ _ h => hP _ _ _ _ (by rfl) h) (Or.inl ⟨?w163, ?y163⟩) hHeld ?r163
  case w163 => rfl
  case y163 => (intro w hSw; go_simp; try with_reducible rfl)
  simp only [rtPr, Act.put]
  refine wpAnyH_take (i := 7) (v := ?v164) rfl (by kernel_rfl) (by kernel_rfl) (by kernel_rfl) (fun _ _ _ h => hP _ _ _ _ (by rfl) h) (Or.inl ⟨?w164, ?y164⟩) hHeld ?r164
  case w164 => rfl
  case y164 => (intro w hSw; go_simp; try with_reducible rfl)
  simp only [rtPr, Act.put]
  refine wpAnyH_take (i := 8) (v := ?v165) rfl (by kernel_rfl) (by kernel_rfl) (by kernel_rfl) (fun _ _ _ h => hP _ _ _ _ (by rfl) h) (Or.inl ⟨?w165, ?y165⟩) hHeld ?r165
  case w165 => rfl
  case y165 => (intro w hSw; go_simp; try with_reducible rfl)
  simp only [rtPr, Act.put]
  refine wpAnyH_take (i := 9) (v := ?v166) rfl (by kernel_rfl) (by kernel_rfl) (by kernel_rfl) (fun _ _ _ h => hP _ _ _ _ (by rfl) h) (Or.inl ⟨?w166, ?y166⟩) hHeld ?r166
  case w166 => rfl
  case y166 => (intro w hSw; go_simp; try with_reducible rfl)
  simp only [rtPr, Act.put]
  refine wpAnyH_take (i := 10) (v := ?v167) rfl (by kernel_rfl) (by kernel_rfl) (by kernel_rfl) (fun _ _ _ h => hP _ _ _ _ (by rfl) h) (Or.inl ⟨?w167, ?y167⟩) hHeld ?r167
  case w167 => rfl
  case y167 => (intro w hSw; go_simp; try with_reducible rfl)
  simp only [rtPr, Act.put]
  refine wpAnyH_take (i := 11) (v := ?v168) rfl (by kernel_rfl) (by kernel_rfl) (by kernel_rfl) (fun _ _ _ h => hP _ _ _ _ (by rfl) h) (Or.inl ⟨?w168, ?y168⟩) hHeld ?r168
  case w168 => rfl
  case y168 => (intro w hSw; go_simp; try with_reducible rfl)
  simp only [rtPr, Act.put]
  refine wpAnyH_take (i := 12) (v := ?v169) rfl (by kernel_rfl) (by kernel_rfl) (by kernel_rfl) (fun _ _ _ h => hP _ _ _ _ (by rfl) h) (Or.inl ⟨?w169, ?y169⟩) hHeld ?r169
  case w169 => rfl
  case y169 => (intro w hSw; go_simp; try with_reducible rfl)
  simp only [rtPr, Act.put]
  refine wpAnyH_ready (rs := [13]) (by kernel_rfl) (by simp) ?_
  refine AllReadyH.cons rfl (fun K hK => ?_) AllReadyH.nil
  go_simp
  go_at_call 36
  refine (HB3.out _ ((Ext.refl wr).drew)).mono ?_
  rintro e w' ⟨rfl, rfl⟩
  go_simp
  refine hK.out _ _ hHeld (fun hHeld => ?_)
  clear hK K
  try simp only [rtPr, Act.put]
  refine wpAnyH_take (i := 14) (v := ?v170) rfl (by kernel_rfl) (by kernel_rfl) (by kernel_rfl) (fun _ _ _ h => hP _ _ _ _ (by rfl) h) (Or.inl ⟨?w170, ?y170⟩) hHeld ?r170
  case w170 => rfl
  case y170 => (intro w hSw; go_simp; try with_reducible rfl)
  simp only [rtPr, Act.put]
  refine wpAnyH_take (i := 15) (v := undef) rfl (by kernel_rfl) (by kernel_rfl) (by kernel_rfl) (fun _ _ _ h => hP _ _ _ _ (by rfl) h) (Or.inr ⟨by rfl, rfl⟩) hHeld ?r171
  simp only [rtPr, Act.put]
  refine wpAnyH_take (i := 16) (v := undef) rfl (by kernel_rfl) (by kernel_rfl) (by kernel_rfl) (fun _ _ _ h => hP _ _ _ _ (by rfl) h) (Or.inr ⟨by rfl, rfl⟩) hHeld ?r172
  simp only [rtPr, Act.put]
  refine wpAnyH_take (i := 17) (v := undef) rfl (by kernel_rfl) (by kernel_rfl) (by kernel_rfl) (fun _ _ _ h => hP _ _ _ _ (by rfl) h) (Or.inr ⟨by rfl, rfl⟩) hHeld ?r173
  simp only [rtPr, Act.put]
  refine wpAnyH_take (i := 18) (v := undef) rfl (by kernel_rfl) (by kernel_rfl) (by kernel_rfl) (fun _ _ _ h => hP _ _ _ _ (by rfl) h) (Or.inr ⟨by rfl, rfl⟩) hHeld ?r174
  simp only [rtPr, Act.put]
  refine wpAnyH_take (i := 19) (v := undef) rfl (by kernel_rfl) (by kernel_rfl) (by kernel_rfl) (fun _ _ _ h => hP _ _ _ _ (by rfl) h) (Or.inr ⟨by rfl, rfl⟩) hHeld ?r175
  simp only [rtPr, Act.put]
  refine wpAnyH_take (i := 20) (v := undef) rfl (by kernel_rfl) (by kernel_rfl) (by kernel_rfl) (fun _ _ _ h => hP _ _ _ _ (by rfl) h) (Or.inr ⟨by rfl, rfl⟩) hHeld ?r176
  simp only [rtPr, Act.put]
  refine wpAnyH_take (i := 21) (v := undef) rfl (by kernel_rfl) (by kernel_rfl) (by kernel_rfl) (fun _ _ _ h => hP _ _ _ _ (by rfl) h) (Or.inr ⟨by rfl, rfl⟩) hHeld ?r177
  simp only [rtPr, Act.put]
  refine wpAnyH_take (i := 22) (v := undef) rfl (by kernel_rfl) (by kernel_rfl) (by kernel_rfl) (fun _ _ _ h => hP _ _ _ _ (by rfl) h) (Or.inr ⟨by rfl, rfl⟩) hHeld ?r178
  simp only [rtPr, Act.put]
  refine wpAnyH_take (i := 23) (v := ?v179) rfl (by kernel_rfl) (by kernel_rfl) (by kernel_rfl) (fun _ _ _ h => hP _ _ _ _ (by rfl) h) (Or.inl ⟨?w179, ?y179⟩) hHeld ?r179
  case w179 => rfl
  case y179 => (intro w hSw; go_simp; try with_reducible rfl)
  simp only [rtPr, Act.put]
  refine wpAnyH_take (i := 24) (v := ?v180) rfl (by kernel_rfl) (by kernel_rfl) (by kernel_rfl) (fun _ _ _ h => hP _ _ _ _ (by rfl) h) (Or.inl ⟨?w180, ?y180⟩) hHeld ?r180
  case w180 => rfl
  case y180 => (intro w hSw; go_simp; try with_reducible rfl)
  simp only [rtPr, Act.put]
  refine wpAnyH_ready (rs := [25]) (by kernel_rfl) (by simp) ?_
  refine AllReadyH.cons rfl (fun K hK => ?_) AllReadyH.nil
  have hcd : wr.drew.cell? ⟨gb, k, none⟩ = some (.bool bo) := hcc
  have hfd : wr.drew.frozen? ⟨gb, k, none⟩ = false := hfb k
  go_simp
  refine hK.out _ _ (HSS.out _ _ hHeld) (fun hHeld => ?_)
  clear hK K hcd hfd hcc hfb
  try simp only [rtPr, Act.put]
  refine wpAnyH_done (by kernel_rfl) ?_ _
  exact hQ _ _ _ _ _ _ _ _ _ _ _ _ _ _ _ _ _ _ _ _ _ _ _ _ _ _
 | false =>
  refine wp_region_held_drew (S := fun W => SB wr W) mixedA (SB.drew wr) (fun hHeld => ?_)
  refine wpAnyH_take (i := 0) (v := ?v181) rfl (by kernel_rfl) (by kernel_rfl) (by kernel_rfl) (fun _ _ _ h => hP _ _ _ _ (by rfl) h) (Or.inl ⟨?w181, ?y181⟩) hHeld ?r181
  case w181 => rfl
  case y181 => (intro w hSw; go_simp; try with_reducible rfl)
  simp only [rtPr, Act.put]
  refine wpAnyH_take (i := 1) (v := ?v182) rfl (by kernel_rfl) (by kernel_rfl) (by kernel_rfl) (fun _ _ _ h => hP _ _ _ _ (by rfl) h) (Or.inl ⟨?w182, ?y182⟩) hHeld ?r182
  case w182 => rfl
  case y182 => (intro w hSw; go_simp; try with_reducible rfl)
  simp only [rtPr, Act.put]
  refine wpAnyH_take (i := 2) (v := ?v183) rfl (by kernel_rfl) (by kernel_rfl) (by kernel_rfl) (fun _ _ _ h => hP _ _ _ _ (by rfl) h) (Or.inl ⟨?w183, ?y183⟩) hHeld ?r183
  case w183 => rfl
  case y183 => (intro w hSw; go_simp; try with_reducible rfl)
  simp only [rtPr, Act.put]
  refine wpAnyH_take (i := 3) (v := ?v184) rfl (by kernel_rfl) (by kernel_rfl) (by kernel_rfl) (fun _ _ _ h => hP _ _ _ _ (by rfl) h) (Or.inl ⟨?w184, ?y184⟩) hHeld ?r184
  case w184 => rfl
  case y184 => (intro w hSw; go_simp; try with_reducible rfl)
  simp only [rtPr, Act.put]
  refine wpAnyH_take (i := 4) (v := ?v185) rfl (by kernel_rfl) (by kernel_rfl) (by kernel_rfl) (fun _ _ _ h => hP _ _ _ _ (by rfl) h) (Or.inl ⟨?w185, ?y185⟩) hHeld ?r185
  case w185 => rfl
  case y185 => (intro w hSw; go_simp; try with_reducible rfl)
  simp only [rtPr, Act.put]
  refine wpAnyH_take (i := 5) (v := ?v186) rfl (by kernel_rfl) (by kernel_rfl) (by kernel_rfl) (fun _ _ _ h => hP _ _ _ _ (by rfl) h) (Or.inl ⟨?w186, ?y186⟩) hHeld ?r186
  case w186 => rfl
  case y186 => (intro w hSw; go_simp; try with_reducible rfl)
  simp only [rtPr, Act.put]
  refine wpAnyH_take (i := 6) (v := ?v187) rfl (by kernel_rfl) (by kernel_rfl) (by kernel_rfl) (fun _ _ _ h => hP _ _ _ _ (by rfl) h) (Or.inl ⟨?w187, ?y187⟩) hHeld ?r187
  case w187 => rfl
  case y187 => (intro w hSw; go_simp; try with_reducible rfl)
  simp only [rtPr, Act.put]
  refine wpAnyH_take (i := 7) (v := ?v188) rfl (by kernel_rfl) (by kernel_rfl) (by kernel_rfl) (fun _ _ _ h => hP _ _ _ _ (by rfl) h) (Or.inl ⟨?w188, ?y188⟩) hHeld ?r188
  case w188 => rfl
  case y188 => (intro w hSw; go_simp; try with_reducible rfl)
  simp only [rtPr, Act.put]
  refine wpAnyH_take (i := 8) (v := ?v189) rfl (by kernel_rfl) (by kernel_rfl) (by kernel_rfl) (fun _ _ _ h => hP _ _ _ _ (by rfl) h) (Or.inl ⟨?w189, ?y189⟩) hHeld ?r189
  case w189 => rfl
  case y189 => (intro w hSw; go_simp; try with_reducible rfl)
  simp only [rtPr, Act.put]
  refine wpAnyH_take (i := 9) (v := ?v190) rfl (by kernel_rfl) (by kernel_rfl) (by kernel_rfl) (fun _ _ _ h => hP _ _ _ _ (by rfl) h) (Or.inl ⟨?w190, ?y190⟩) hHeld ?r190
  case w190 => rfl
  case y190 => (intro w hSw; go_simp; try with_reducible rfl)
  simp only [rtPr, Act.put]
  refine wpAnyH_take (i := 10) (v := ?v191) rfl (by kernel_rfl) (by kernel_rfl) (by kernel_rfl) (fun _ _ _ h => hP _ _ _ _ (by rfl) h) (Or.inl ⟨?w191, ?y191⟩) hHeld ?r191
  case w191 => rfl
  case y191 => (intro w hSw; go_simp; try with_reducible rfl)
  simp only [rtPr, Act.put]
  refine wpAnyH_take (i := 11) (v := ?v192) rfl (by kernel_rfl) (by kernel_rfl) (by kernel_rfl) (fun _ _ _ h => hP _ _ _ _ (by rfl) h) (Or.inl ⟨?w192, ?y192⟩) hHeld ?r192
  case w192 => rfl
  case y192 => (intro w hSw; go_simp; try with_reducible rfl)
  simp only [rtPr, Act.put]
  refine wpAnyH_take (i := 12) (v := ?v193) rfl (by kernel_rfl) (by kernel_rfl) (by kernel_rfl) (fun _ _ _ h => hP _ _ _ _ (by rfl) h) (Or.inl ⟨?w193, ?y193⟩) hHeld ?r193
  case w193 => rfl
  case y193 => (intro w hSw; go_simp; try with_reducible rfl)
  simp only [rtPr, Act.put]
  refine wpAnyH_ready (rs := [13]) (by kernel_rfl) (by simp) ?_
  refine AllReadyH.cons rfl (fun K hK => ?_) AllReadyH.nil
  go_simp
  go_at_call 36
  refine (HB3.out _ ((Ext.refl wr).drew)).mono ?_
  rintro e w' ⟨rfl, rfl⟩
  go_simp
  refine hK.out _ _ hHeld (fun hHeld => ?_)
  clear hK K
  try simp only [rtPr, Act.put]
  refine wpAnyH_take (i := 14) (v := ?v194) rfl (by kernel_rfl) (by kernel_rfl) (by kernel_rfl) (fun _ _ _ h => hP _ _ _ _ (by rfl) h) (Or.inl ⟨?w194, ?y194⟩) hHeld ?r194
  case w194 => rfl
  case y194 => (intro w hSw; go_simp; try with_reducible rfl)
  simp only [rtPr, Act.put]
  refine wpAnyH_take (i := 15) (v := ?v195) rfl (by kernel_rfl) (by kernel_rfl) (by kernel_rfl) (fun _ _ _ h => hP _ _ _ _ (by rfl) h) (Or.inl ⟨?w195, ?y195⟩) hHeld ?r195
  case w195 => rfl
  case y195 => (intro w hSw; go_simp; try with_reducible rfl)
  simp only [rtPr, Act.put]
  refine wpAnyH_take (i := 16) (v := ?v196) rfl (by kernel_rfl) (by kernel_rfl) (by kernel_rfl) (fun _ _ _ h => hP _ _ _ _ (by rfl) h) (Or.inl ⟨?w196, ?y196⟩) hHeld ?r196
  case w196 => rfl
  case y196 => (intro w hSw; go_simp; try with_reducible rfl)
  simp only [rtPr, Act.put]
  refine wpAnyH_take (i := 17) (v := ?v197) rfl (by kernel_rfl) (by kernel_rfl) (by kernel_rfl) (fun _ _ _ h => hP _ _ _ _ (by rfl) h) (Or.inl ⟨?w197, ?y197⟩) hHeld ?r197
  case w197 => rfl
  case y197 => (intro w hSw; go_simp; try with_reducible rfl)
  simp only [rtPr, Act.put]
  refine wpAnyH_take (i := 18) (v := ?v198) rfl (by kernel_rfl) (by kernel_rfl) (by kernel_rfl) (fun _ _ _ h => hP _ _ _ _ (by rfl) h) (Or.inl ⟨?w198, ?y198⟩) hHeld ?r198
  case w198 => rfl
  case y198 => (intro w hSw; go_simp; try with_reducible rfl)
  simp only [rtPr, Act.put]
  refine wpAnyH_take (i := 19) (v := ?v199) rfl (by kernel_rfl) (by kernel_rfl) (by kernel_rfl) (fun _ _ _ h => hP _ _ _ _ (by rfl) h) (Or.inl ⟨?w199, ?y199⟩) hHeld ?r199
  case w199 => rfl
  case y199 => (intro w hSw; go_simp; try with_reducible rfl)
  simp only [rtPr, Act.put]
  refine wpAnyH_take (i := 20) (v := ?v200) rfl (by kernel_rfl) (by kernel_rfl) (by kernel_rfl) (fun _ _ _ h => hP _ _ _ _ (by rfl) h) (Or.inl ⟨?w200, ?y200⟩) hHeld ?r200
  case w200 => rfl
  case y200 => (intro w hSw; go_simp; try with_reducible rfl)
  simp only [rtPr, Act.put]
  refine wpAnyH_take (i := 21) (v := ?v201) rfl (by kernel_rfl) (by kernel_rfl) (by kernel_rfl) (fun _ _ _ h => hP _ _ _ _ (by rfl) h) (Or.inl ⟨?w201, ?y201⟩) hHeld ?r201
  case w201 => rfl
  case y201 => (intro w hSw; go_simp; try with_reducible rfl)
  simp only [rtPr, Act.put]
  refine wpAnyH_ready (rs := [22]) (by kernel_rfl) (by simp) ?_
  refine AllReadyH.cons rfl (fun K hK => ?_) AllReadyH.nil
  go_simp
  go_at_call 36
  refine (HB4.out _ ((Ext.refl wr).drew)).mono ?_
  rintro e w' ⟨rfl, rfl⟩
  go_simp
  refine hK.out _ _ hHeld (fun hHeld => ?_)
  clear hK K
  try simp only [rtPr, Act.put]
  refine wpAnyH_take (i := 23) (v := ?v202) rfl (by kernel_rfl) (by kernel_rfl) (by kernel_rfl) (fun _ _ _ h => hP _ _ _ _ (by rfl) h) (Or.inl ⟨?w202, ?y202⟩) hHeld ?r202
  case w202 => rfl
  case y202 => (intro w hSw; go_simp; try with_reducible rfl)
  simp only [rtPr, Act.put]
  refine wpAnyH_take (i := 24) (v := ?v203) rfl (by kernel_rfl) (by kernel_rfl) (by kernel_rfl) (fun _ _ _ h => hP _ _ _ _ (by rfl) h) (Or.inl ⟨?w203, ?y203⟩) hHeld ?r203
  case w203 => rfl
  case y203 => (intro w hSw; go_simp; try with_reducible rfl)
  simp only [rtPr, Act.put]
  refine wpAnyH_ready (rs := [25]) (by kernel_rfl) (by simp) ?_
  refine AllReadyH.cons rfl (fun K hK => ?_) AllReadyH.nil
  have hcd : wr.drew.cell? ⟨gb, k, none⟩ = some (.bool bo) := hcc
  have hfd : wr.drew.frozen? ⟨gb, k, none⟩ = false := hfb k
  go_simp
  refine hK.out _ _ (HSS.out _ _ hHeld) (fun hHeld => ?_)
  clear hK K hcd hfd hcc hfb
  try simp only [rtPr, Act.put]
  refine wpAnyH_done (by kernel_rfl) ?_ _
  exact hQ _ _ _ _ _ _ _ _ _ _ _ _ _ _ _ _ _ _ _ _ _ _ _ _ _ _

set_option maxHeartbeats 4000000 in
set_option maxRecDepth 1000000 in
theorem r42_wp {wU w1 : World} {Q : Exit → Act → World → Prop} {gm gd B S n a : Nat} {W H L : Int} {vF vU vT : Value} {fs ts : List Value} {us : List Bool} {u0 u1 u2 u5 u6 u7 u8 u9 u10 u11 u12 u13 u14 u15 u16 u17 u18 u19 u20 u21 u22 u23 u24 u25 u26 u27 u28 u29 u30 u31 u32 u33 u34 u35 u36 u37 u38 u39 u40 u41 u42 u43 u44 u45 u46 u47 u48 u49 u50 u51 u52 u53 u54 u55 u56 u57 u58 u59 u60 u61 u62 u63 u64 u65 u66 u67 u68 u69 u70 u71 u72 u73 u74 u75 u76 u77 u78 u79 u80 u81 u82 u83 u84 u85 u86 u87 u88 u89 u90 u91 u92 u93 u94 u95 u96 u97 u98 u99 u100 u101 u102 u103 u104 u105 u106 u107 u108 u109 u110 u111 u112 u113 u114 u115 u116 u117 u118 u119 u120 u121 u122 u123 u124 u125 u126 u127 u128 u129 u130 u131 u132 u133 u134 u135 u136 u137 u138 u139 u140 u141 u142 u143 u144 u145 u146 u147 u148 u149 u150 u151 u152 u153 u154 u155 u156 u157 u158 u159 u160 u161 u162 u163 u164 u165 u166 u167 u168 u169 u170 u171 u172 u173 u174 u175 u176 u177 u178 u179 u180 u181 u182 u183 u184 u185 u186 u187 u188 u189 u190 u191 u192 u193 u194 u195 u196 u197 u198 u199 u200 u201 u202 u203 u204 u205 u206 u207 u208 u209 u210 u211 u212 u213 u214 u215 u216 u217 u218 u219 : Value}
  (hR : Hid (RU w1 B wU S gm gd W H L n a a vF vU vT fs ts us)) (hul2 : us.length ≤ 16)
  (hP : ∀ c (a a' : Act) w, a.defers = a'.defers → Q (.panic c) a w → Q (.panic c) a' w)
  (hQ : ∀ (vU' : Value) (x : Bool) (w2 : World), RU w1 B w2 S gm gd W H L n a a vF vU' vT fs ts (us ++ [x]) → ∀ (x211 x212 x213 x214 x215 x216 x217 x218 : Value), Q .normal ⟨(u0 :: u1 :: u2 :: Value.pointer (some ⟨gd, 0, none⟩) :: Value.pointer (some ⟨gm, 0, none⟩) :: u5 :: u6 :: u7 :: u8 :: u9 :: u10 :: u11 :: u12 :: u13 :: u14 :: u15 :: u16 :: u17 :: u18 :: u19 :: u20 :: u21 :: u22 :: u23 :: u24 :: u25 :: u26 :: u27 :: u28 :: u29 :: u30 :: u31 :: u32 :: u33 :: u34 :: u35 :: u36 :: u37 :: u38 :: u39 :: u40 :: u41 :: u42 :: u43 :: u44 :: u45 :: u46 :: u47 :: u48 :: u49 :: u50 :: u51 :: u52 :: u53 :: u54 :: u55 :: u56 :: u57 :: u58 :: u59 :: u60 :: u61 :: u62 :: u63 :: u64 :: u65 :: u66 :: u67 :: u68 :: u69 :: u70 :: u71 :: u72 :: u73 :: u74 :: u75 :: u76 :: u77 :: u78 :: u79 :: u80 :: u81 :: u82 :: u83 :: u84 :: u85 :: u86 :: u87 :: u88 :: u89 :: u90 :: u91 :: u92 :: u93 :: u94 :: u95 :: u96 :: u97 :: u98 :: u99 :: u100 :: u101 :: u102 :: u103 :: u104 :: u105 :: u106 :: u107 :: u108 :: u109 :: u110 :: u111 :: u112 :: u113 :: u114 :: u115 :: u116 :: u117 :: u118 :: u119 :: u120 :: u121 :: u122 :: u123 :: u124 :: u125 :: u126 :: u127 :: u128 :: u129 :: u130 :: u131 :: u132 :: u133 :: u134 :: u135 :: u136 :: u137 :: u138 :: u139 :: u140 :: u141 :: u142 :: u143 :: u144 :: u145 :: u146 :: u147 :: u148 :: u149 :: u150 :: u151 :: u152 :: u153 :: u154 :: u155 :: u156 :: u157 :: u158 :: u159 :: u160 :: u161 :: u162 :: u163 :: u164 :: u165 :: u166 :: u167 :: u168 :: u169 :: u170 :: u171 :: u172 :: u173 :: u174 :: u175 :: u176 :: u177 :: u178 :: u179 :: u180 :: u181 :: u182 :: u183 :: u184 :: u185 :: u186 :: u187 :: u188 :: u189 :: u190 :: u191 :: u192 :: u193 :: u194 :: u195 :: u196 :: u197 :: u198 :: u199 :: u200 :: u201 :: u202 :: u203 :: u204 :: u205 :: u206 :: u207 :: u208 :: u209 :: u210 :: x211 :: x212 :: x213 :: x214 :: x215 :: x216 :: x217 :: x218 :: u219 :: []).toArray, []⟩ w2) :
  code42.wp Try.prog Q ⟨(u0 :: u1 :: u2 :: Value.pointer (some ⟨gd, 0, none⟩) :: Value.pointer (some ⟨gm, 0, none⟩) :: u5 :: u6 :: u7 :: u8 :: u9 :: u10 :: u11 :: u12 :: u13 :: u14 :: u15 :: u16 :: u17 :: u18 :: u19 :: u20 :: u21 :: u22 :: u23 :: u24 :: u25 :: u26 :: u27 :: u28 :: u29 :: u30 :: u31 :: u32 :: u33 :: u34 :: u35 :: u36 :: u37 :: u38 :: u39 :: u40 :: u41 :: u42 :: u43 :: u44 :: u45 :: u46 :: u47 :: u48 :: u49 :: u50 :: u51 :: u52 :: u53 :: u54 :: u55 :: u56 :: u57 :: u58 :: u59 :: u60 :: u61 :: u62 :: u63 :: u64 :: u65 :: u66 :: u67 :: u68 :: u69 :: u70 :: u71 :: u72 :: u73 :: u74 :: u75 :: u76 :: u77 :: u78 :: u79 :: u80 :: u81 :: u82 :: u83 :: u84 :: u85 :: u86 :: u87 :: u88 :: u89 :: u90 :: u91 :: u92 :: u93 :: u94 :: u95 :: u96 :: u97 :: u98 :: u99 :: u100 :: u101 :: u102 :: u103 :: u104 :: u105 :: u106 :: u107 :: u108 :: u109 :: u110 :: u111 :: u112 :: u113 :: u114 :: u115 :: u116 :: u117 :: u118 :: u119 :: u120 :: u121 :: u122 :: u123 :: u124 :: u125 :: u126 :: u127 :: u128 :: u129 :: u130 :: u131 :: u132 :: u133 :: u134 :: u135 :: u136 :: u137 :: u138 :: u139 :: u140 :: u141 :: u142 :: u143 :: u144 :: u145 :: u146 :: u147 :: u148 :: u149 :: u150 :: u151 :: u152 :: u153 :: u154 :: u155 :: u156 :: u157 :: u158 :: u159 :: u160 :: u161 :: u162 :: u163 :: u164 :: u165 :: u166 :: u167 :: u168 :: u169 :: u170 :: u171 :: u172 :: u173 :: u174 :: u175 :: u176 :: u177 :: u178 :: u179 :: u180 :: u181 :: u182 :: u183 :: u184 :: u185 :: u186 :: u187 :: u188 :: u189 :: u190 :: u191 :: u192 :: u193 :: u194 :: u195 :: u196 :: u197 :: u198 :: u199 :: u200 :: u201 :: u202 :: u203 :: u204 :: u205 :: u206 :: u207 :: u208 :: u209 :: u210 :: u211 :: u212 :: u213 :: u214 :: u215 :: u216 :: u217 :: u218 :: u219 :: []).toArray, []⟩ wU := by
 obtain ⟨iB, bi, bz0, bz1, bz2⟩ := info_parts Try.infoBool
 have BF := Lib.hid bi
 have BZ0 := Lib.hid bz0
 have BZ1 := Lib.hid bz1
 have BZ2 := Lib.hid bz2
 clear bi bz0 bz1 bz2
 have HEU : Hid (Ext w1 wU) := hR.out.ex
 conv => arg 2; whnf
 refine wp_region_held_drew (S := fun _ => True) mixedA trivial (fun hHeld => ?_)
 have HA0 := Lib.hid (hR.out.ext ((Ext.refl wU).drew))
 have HE0' : Hid (Ext w1 wU.drew) := hR.out.ex.drew
 refine wpAnyH_take (i := 0) (v := ?v155) rfl (by kernel_rfl) (by kernel_rfl) (by kernel_rfl) (fun _ _ _ h => hP _ _ _ _ (by rfl) h) (Or.inl ⟨?w155, ?y155⟩) hHeld ?r155
 case w155 => rfl
 case y155 => (intro w hSw; go_simp; try with_reducible rfl)
 simp only [rtPr, Act.put]
 refine wpAnyH_take (i := 2) (v := ?v156) rfl (by kernel_rfl) (by kernel_rfl) (by kernel_rfl) (fun _ _ _ h => hP _ _ _ _ (by rfl) h) (Or.inl ⟨?w156, ?y156⟩) hHeld ?r156
 case w156 => rfl
 case y156 => (intro w hSw; go_simp; try with_reducible rfl)
 simp only [rtPr, Act.put]
 refine wpAnyH_ready (rs := [1, 3]) (by kernel_rfl) (by simp) ?_
 refine AllReadyH.cons rfl (fun K hK => ?_) ?_
 ·have hcl : wU.drew.cell? ⟨gm, 4, none⟩ = some vU := HA0.out.ms.mz.cell (k := 4) rfl
  go_simp
  clear hcl
  refine hK.out _ _ trivial (fun hHeld => ?_)
  clear hK K
  try simp only [rtPr, Act.put]
  refine wpAnyH_ready (rs := [3]) (by kernel_rfl) (by simp) ?_
  refine AllReadyH.cons rfl (fun K hK => ?_) ?_
  ·go_simp
   go_at_call 80
   refine (drawE_calls 3 HA0.out.ms.dr (by omega) (by omega)).mono ?_
   rintro e wd2 ⟨xq, rfl, hq0, hq1, hdq, hgq⟩
   have HA2 := Lib.hid (HA0.out.drawn hdq hgq)
   have HE2' : Hid (Ext w1 wd2) := (HA0.out.drawn hdq hgq).ex
   clear hdq hgq
   go_simp
   refine hK.out _ _ trivial (fun hHeld => ?_)
   clear hK K
   try simp only [rtPr, Act.put]
   refine wpAnyH_ready (rs := [4]) (by kernel_rfl) (by simp) ?_
   refine AllReadyH.cons rfl (fun K hK => ?_) ?_
   ·go_simp
    refine hK.out _ _ trivial (fun hHeld => ?_)
    clear hK K
    try simp only [rtPr, Act.put]
    refine wpAnyH_ready (rs := [5]) (by kernel_rfl) (by simp) ?_
    refine AllReadyH.cons rfl (fun K hK => ?_) ?_
    ·go_simp
     refine hK.out _ _ trivial (fun hHeld => ?_)
     clear hK K
     try simp only [rtPr, Act.put]
     refine wpAnyH_ready (rs := [6]) (by kernel_rfl) (by simp) ?_
     refine AllReadyH.cons rfl (fun K hK => ?_) ?_
     ·have hct : wd2.cell? ⟨gm, 4, none⟩ = some vU := HA2.out.ms.mz.cell (k := 4) rfl
      have hft : wd2.frozen? ⟨gm, 4, none⟩ = false := HA2.out.ms.mz.frozen 4
      refine step_append_lies (P := Try.prog) _ (by rfl) _ _ 28 (by rfl) S 4 iB (.bool false) 1 1 Try.underlying28 BF.out BZ0.out BZ1.out BZ2.out rfl (by decide) vU us.length _ (by rfl) (World.ownsRow.alloc HA2.out.ow _) ⟨wd2.heap.size, 0, none⟩ 1 1 [.bool (decide (0 < xq))] (by rfl) rfl (cell_one_new _ _ _) (by simp [Value.oneCell']) (by decide) (by unfold maxLen; omega) (by omega) (Nat.le_trans HA2.out.ms.hS (by simp)) (wd2.heap.size + 1) (by simp) ?_
      intro gq cq w9 hown hg hv _
      have HR9 := Lib.hid (HA2.out.add hown hg)
      have hc9 : w9.cell? ⟨gm, 4, none⟩ = some vU := (World.cell?_of_block (a := ⟨gm, 4, none⟩) (hg.block gm (by have := lt_of_some HA2.out.ms.mz; simp; omega) (fun e => own_blk_ne HA2.out.ow HA2.out.ms.mz (by decide) e.symm))).trans ((World.cell?_of_block (a := ⟨gm, 4, none⟩) (Below.heap_alloc _ _ _ (lt_of_some HA2.out.ms.mz))).trans hct)
      have hf9 : w9.frozen? ⟨gm, 4, none⟩ = false := (World.frozen?_of_block (a := ⟨gm, 4, none⟩) (hg.block gm (by have := lt_of_some HA2.out.ms.mz; simp; omega) (fun e => own_blk_ne HA2.out.ow HA2.out.ms.mz (by decide) e.symm))).trans ((World.frozen?_of_block (a := ⟨gm, 4, none⟩) (Below.heap_alloc _ _ _ (lt_of_some HA2.out.ms.mz))).trans hft)
      clear hown hg hv hct hft
      refine hK.out _ _ trivial (fun hHeld => ?_)
      clear hK K
      try simp only [rtPr, Act.put]
      refine wpAnyH_ready (rs := [7]) (by kernel_rfl) (by simp) ?_
      refine AllReadyH.cons rfl (fun K hK => ?_) ?_
      ·go_simp
       refine hK.out _ _ trivial (fun hHeld => ?_)
       clear hK K
       try simp only [rtPr, Act.put]
       refine wpAnyH_ready (rs := [8]) (by kernel_rfl) (by simp) ?_
       refine AllReadyH.cons rfl (fun K hK => ?_) ?_
       ·go_simp
        refine hK.out _ _ trivial (fun hHeld => ?_)
        clear hK K
        try simp only [rtPr, Act.put]
        refine wpAnyH_done (by kernel_rfl) ?_ _
        exact hQ _ _ _ HR9.out _ _ _ _ _ _ _ _
       exact AllReadyH.nil
      exact AllReadyH.nil
     exact AllReadyH.nil
    exact AllReadyH.nil
   exact AllReadyH.nil
  exact AllReadyH.nil
 refine AllReadyH.cons rfl (fun K hK => ?_) ?_
 ·go_simp
  go_at_call 80
  refine (drawE_calls 3 HA0.out.ms.dr (by omega) (by omega)).mono ?_
  rintro e wd8 ⟨xq, rfl, hq0, hq1, hdq, hgq⟩
  have HA8 := Lib.hid (HA0.out.drawn hdq hgq)
  have HE8' : Hid (Ext w1 wd8) := (HA0.out.drawn hdq hgq).ex
  clear hdq hgq
  go_simp
  refine hK.out _ _ trivial (fun hHeld => ?_)
  clear hK K
  try simp only [rtPr, Act.put]
  refine wpAnyH_ready (rs := [1, 4]) (by kernel_rfl) (by simp) ?_
  refine AllReadyH.cons rfl (fun K hK => ?_) ?_
  ·have hcl : wd8.cell? ⟨gm, 4, none⟩ = some vU := HA8.out.ms.mz.cell (k := 4) rfl
   go_simp
   clear hcl
   refine hK.out _ _ trivial (fun hHeld => ?_)
   clear hK K
   try simp only [rtPr, Act.put]
   refine wpAnyH_ready (rs := [4]) (by kernel_rfl) (by simp) ?_
   refine AllReadyH.cons rfl (fun K hK => ?_) ?_
   ·go_simp
    refine hK.out _ _ trivial (fun hHeld => ?_)
    clear hK K
    try simp only [rtPr, Act.put]
    refine wpAnyH_ready (rs := [5]) (by kernel_rfl) (by simp) ?_
    refine AllReadyH.cons rfl (fun K hK => ?_) ?_
    ·go_simp
     refine hK.out _ _ trivial (fun hHeld => ?_)
     clear hK K
     try simp only [rtPr, Act.put]
     refine wpAnyH_ready (rs := [6]) (by kernel_rfl) (by simp) ?_
     refine AllReadyH.cons rfl (fun K hK => ?_) ?_
     ·have hct : wd8.cell? ⟨gm, 4, none⟩ = some vU := HA8.out.ms.mz.cell (k := 4) rfl
      have hft : wd8.frozen? ⟨gm, 4, none⟩ = false := HA8.out.ms.mz.frozen 4
      refine step_append_lies (P := Try.prog) _ (by rfl) _ _ 28 (by rfl) S 4 iB (.bool false) 1 1 Try.underlying28 BF.out BZ0.out BZ1.out BZ2.out rfl (by decide) vU us.length _ (by rfl) (World.ownsRow.alloc HA8.out.ow _) ⟨wd8.heap.size, 0, none⟩ 1 1 [.bool (decide (0 < xq))] (by rfl) rfl (cell_one_new _ _ _) (by simp [Value.oneCell']) (by decide) (by unfold maxLen; omega) (by omega) (Nat.le_trans HA8.out.ms.hS (by simp)) (wd8.heap.size + 1) (by simp) ?_
      intro gq cq w9 hown hg hv _
      have HR9 := Lib.hid (HA8.out.add hown hg)
      have hc9 : w9.cell? ⟨gm, 4, none⟩ = some vU := (World.cell?_of_block (a := ⟨gm, 4, none⟩) (hg.block gm (by have := lt_of_some HA8.out.ms.mz; simp; omega) (fun e => own_blk_ne HA8.out.ow HA8.out.ms.mz (by decide) e.symm))).trans ((World.cell?_of_block (a := ⟨gm, 4, none⟩) (Below.heap_alloc _ _ _ (lt_of_some HA8.out.ms.mz))).trans hct)
      have hf9 : w9.frozen? ⟨gm, 4, none⟩ = false := (World.frozen?_of_block (a := ⟨gm, 4, none⟩) (hg.block gm (by have := lt_of_some HA8.out.ms.mz; simp; omega) (fun e => own_blk_ne HA8.out.ow HA8.out.ms.mz (by decide) e.symm))).trans ((World.frozen?_of_block (a := ⟨gm, 4, none⟩) (Below.heap_alloc _ _ _ (lt_of_some HA8.out.ms.mz))).trans hft)
      clear hown hg hv hct hft
      refine hK.out _ _ trivial (fun hHeld => ?_)
      clear hK K
      try simp only [rtPr, Act.put]
      refine wpAnyH_ready (rs := [7]) (by kernel_rfl) (by simp) ?_
      refine AllReadyH.cons rfl (fun K hK => ?_) ?_
      ·go_simp
       refine hK.out _ _ trivial (fun hHeld => ?_)
       clear hK K
       try simp only [rtPr, Act.put]
       refine wpAnyH_ready (rs := [8]) (by kernel_rfl) (by simp) ?_
       refine AllReadyH.cons rfl (fun K hK => ?_) ?_
       ·go_simp
        refine hK.out _ _ trivial (fun hHeld => ?_)
        clear hK K
        try simp only [rtPr, Act.put]
        refine wpAnyH_done (by kernel_rfl) ?_ _
        exact hQ _ _ _ HR9.out _ _ _ _ _ _ _ _
       exact AllReadyH.nil
      exact AllReadyH.nil
     exact AllReadyH.nil
    exact AllReadyH.nil
   exact AllReadyH.nil
  refine AllReadyH.cons rfl (fun K hK => ?_) ?_
  ·go_simp
   refine hK.out _ _ trivial (fun hHeld => ?_)
   clear hK K
   try simp only [rtPr, Act.put]
   refine wpAnyH_ready (rs := [1, 5]) (by kernel_rfl) (by simp) ?_
   refine AllReadyH.cons rfl (fun K hK => ?_) ?_
   ·have hcl : wd8.cell? ⟨gm, 4, none⟩ = some vU := HA8.out.ms.mz.cell (k := 4) rfl
    go_simp
    clear hcl
    refine hK.out _ _ trivial (fun hHeld => ?_)
    clear hK K
    try simp only [rtPr, Act.put]
    refine wpAnyH_ready (rs := [5]) (by kernel_rfl) (by simp) ?_
    refine AllReadyH.cons rfl (fun K hK => ?_) ?_
    ·go_simp
     refine hK.out _ _ trivial (fun hHeld => ?_)
     clear hK K
     try simp only [rtPr, Act.put]
     refine wpAnyH_ready (rs := [6]) (by kernel_rfl) (by simp) ?_
     refine AllReadyH.cons rfl (fun K hK => ?_) ?_
     ·have hct : wd8.cell? ⟨gm, 4, none⟩ = some vU := HA8.out.ms.mz.cell (k := 4) rfl
      have hft : wd8.frozen? ⟨gm, 4, none⟩ = false := HA8.out.ms.mz.frozen 4
      refine step_append_lies (P := Try.prog) _ (by rfl) _ _ 28 (by rfl) S 4 iB (.bool false) 1 1 Try.underlying28 BF.out BZ0.out BZ1.out BZ2.out rfl (by decide) vU us.length _ (by rfl) (World.ownsRow.alloc HA8.out.ow _) ⟨wd8.heap.size, 0, none⟩ 1 1 [.bool (decide (0 < xq))] (by rfl) rfl (cell_one_new _ _ _) (by simp [Value.oneCell']) (by decide) (by unfold maxLen; omega) (by omega) (Nat.le_trans HA8.out.ms.hS (by simp)) (wd8.heap.size + 1) (by simp) ?_
      intro gq cq w9 hown hg hv _
      have HR9 := Lib.hid (HA8.out.add hown hg)
      have hc9 : w9.cell? ⟨gm, 4, none⟩ = some vU := (World.cell?_of_block (a := ⟨gm, 4, none⟩) (hg.block gm (by have := lt_of_some HA8.out.ms.mz; simp; omega) (fun e => own_blk_ne HA8.out.ow HA8.out.ms.mz (by decide) e.symm))).trans ((World.cell?_of_block (a := ⟨gm, 4, none⟩) (Below.heap_alloc _ _ _ (lt_of_some HA8.out.ms.mz))).trans hct)
      have hf9 : w9.frozen? ⟨gm, 4, none⟩ = false := (World.frozen?_of_block (a := ⟨gm, 4, none⟩) (hg.block gm (by have := lt_of_some HA8.out.ms.mz; simp; omega) (fun e => own_blk_ne HA8.out.ow HA8.out.ms.mz (by decide) e.symm))).trans ((World.frozen?_of_block (a := ⟨gm, 4, none⟩) (Below.heap_alloc _ _ _ (lt_of_some HA8.out.ms.mz))).trans hft)
      clear hown hg hv hct hft
      refine hK.out _ _ trivial (fun hHeld => ?_)
      clear hK K
      try simp only [rtPr, Act.put]
      refine wpAnyH_ready (rs := [7]) (by kernel_rfl) (by simp) ?_
      refine AllReadyH.cons rfl (fun K hK => ?_) ?_
      ·go_simp
       refine hK.out _ _ trivial (fun hHeld => ?_)
       clear hK K
       try simp only [rtPr, Act.put]
       refine wpAnyH_ready (rs := [8]) (by kernel_rfl) (by simp) ?_
       refine AllReadyH.cons rfl (fun K hK => ?_) ?_
       ·go_simp
        refine hK.out _ _ trivial (fun hHeld => ?_)
        clear hK K
        try simp only [rtPr, Act.put]
        refine wpAnyH_done (by kernel_rfl) ?_ _
        exact hQ _ _ _ HR9.out _ _ _ _ _ _ _ _
       exact AllReadyH.nil
      exact AllReadyH.nil
     exact AllReadyH.nil
    exact AllReadyH.nil
   refine AllReadyH.cons rfl (fun K hK => ?_) ?_
   ·go_simp
    refine hK.out _ _ trivial (fun hHeld => ?_)
    clear hK K
    try simp only [rtPr, Act.put]
    refine wpAnyH_ready (rs := [1]) (by kernel_rfl) (by simp) ?_
    refine AllReadyH.cons rfl (fun K hK => ?_) ?_
    ·have hcl : (wd8.alloc (.cells #[.bool (decide (0 < xq))] 4)).cell? ⟨gm, 4, none⟩ = some vU := (HA8.out.ext ((Ext.refl _).alloc (.cells #[.bool (decide (0 < xq))] 4))).ms.mz.cell (k := 4) rfl
     go_simp
     clear hcl
     refine hK.out _ _ trivial (fun hHeld => ?_)
     clear hK K
     try simp only [rtPr, Act.put]
     refine wpAnyH_ready (rs := [6]) (by kernel_rfl) (by simp) ?_
     refine AllReadyH.cons rfl (fun K hK => ?_) ?_
     ·have hct : wd8.cell? ⟨gm, 4, none⟩ = some vU := HA8.out.ms.mz.cell (k := 4) rfl
      have hft : wd8.frozen? ⟨gm, 4, none⟩ = false := HA8.out.ms.mz.frozen 4
      refine step_append_lies (P := Try.prog) _ (by rfl) _ _ 28 (by rfl) S 4 iB (.bool false) 1 1 Try.underlying28 BF.out BZ0.out BZ1.out BZ2.out rfl (by decide) vU us.length _ (by rfl) (World.ownsRow.alloc HA8.out.ow _) ⟨wd8.heap.size, 0, none⟩ 1 1 [.bool (decide (0 < xq))] (by rfl) rfl (cell_one_new _ _ _) (by simp [Value.oneCell']) (by decide) (by unfold maxLen; omega) (by omega) (Nat.le_trans HA8.out.ms.hS (by simp)) (wd8.heap.size + 1) (by simp) ?_
      intro gq cq w9 hown hg hv _
      have HR9 := Lib.hid (HA8.out.add hown hg)
      have hc9 : w9.cell? ⟨gm, 4, none⟩ = some vU := (World.cell?_of_block (a := ⟨gm, 4, none⟩) (hg.block gm (by have := lt_of_some HA8.out.ms.mz; simp; omega) (fun e => own_blk_ne HA8.out.ow HA8.out.ms.mz (by decide) e.symm))).trans ((World.cell?_of_block (a := ⟨gm, 4, none⟩) (Below.heap_alloc _ _ _ (lt_of_some HA8.out.ms.mz))).trans hct)
      have hf9 : w9.frozen? ⟨gm, 4, none⟩ = false := (World.frozen?_of_block (a := ⟨gm, 4, none⟩) (hg.block gm (by have := lt_of_some HA8.out.ms.mz; simp; omega) (fun e => own_blk_ne HA8.out.ow HA8.out.ms.mz (by decide) e.symm))).trans ((World.frozen?_of_block (a := ⟨gm, 4, none⟩) (Below.heap_alloc _ _ _ (lt_of_some HA8.out.ms.mz))).trans hft)
      clear hown hg hv hct hft
      refine hK.out _ _ trivial (fun hHeld => ?_)
      clear hK K
      try simp only [rtPr, Act.put]
      refine wpAnyH_ready (rs := [7]) (by kernel_rfl) (by simp) ?_
      refine AllReadyH.cons rfl (fun K hK => ?_) ?_
      ·go_simp
       refine hK.out _ _ trivial (fun hHeld => ?_)
       clear hK K
       try simp only [rtPr, Act.put]
       refine wpAnyH_ready (rs := [8]) (by kernel_rfl) (by simp) ?_
       refine AllReadyH.cons rfl (fun K hK => ?_) ?_
       ·go_simp
        refine hK.out _ _ trivial (fun hHeld => ?_)
        clear hK K
        try simp only [rtPr, Act.put]
        refine wpAnyH_done (by kernel_rfl) ?_ _
        exact hQ _ _ _ HR9.out _ _ _ _ _ _ _ _
       exact AllReadyH.nil
      exact AllReadyH.nil
     exact AllReadyH.nil
    exact AllReadyH.nil
   exact AllReadyH.nil
  exact AllReadyH.nil
 exact AllReadyH.nil

set_option maxHeartbeats 4000000 in
set_option maxRecDepth 1000000 in
theorem r16_wp {w6 : World} {Q : Exit → Act → World → Prop} {ge B n t : Nat} {u0 u1 u2 u3 u4 u6 u9 u10 u11 u12 u13 u14 u15 u16 u17 u18 u19 u20 u21 u22 u23 u24 u25 u26 u27 u28 u29 u30 u31 u32 u33 u34 u35 u36 u37 u38 u39 u40 u41 u42 u43 u44 u45 u46 u47 u48 u49 u50 u51 u52 u53 u54 u55 u56 u57 u58 u59 u60 u61 u62 u63 u64 u65 u66 u67 u68 u69 u70 u71 u72 u73 u74 u75 u76 u77 u78 u79 u80 u81 u82 u83 u84 u85 u86 u87 u88 u89 u90 u91 u92 u93 u94 u95 u96 u97 u98 u99 u100 u101 u102 u103 u104 u105 u106 u107 u108 u109 u110 u111 u112 u113 u114 u115 u116 u117 u118 u119 u120 u121 u122 u123 u124 u125 u126 u127 u128 u129 u130 u131 u132 u133 u134 u135 u136 u137 u138 u139 u140 u141 u142 u143 u144 u145 u146 u147 u148 u149 u150 u151 u152 u153 u154 u155 u156 u157 u158 u159 u160 u161 u162 u163 u164 u165 u166 u167 u168 u169 u170 u171 u172 u173 u174 u175 u176 u177 u178 u179 u180 u181 u182 u183 u184 u185 u186 u187 u188 u189 u190 u191 u192 u193 u194 u195 u196 u197 u198 u199 u200 u201 u202 u203 u204 u205 u206 u207 u208 u209 u210 u211 u212 u213 u214 u215 u216 u217 u218 u219 : Value}
  (HDE : Hid (DrawAt B w6 ge)) (hB0 : B ≤ w6.heap.size) (hl0 : ge < w6.heap.size) (ht3 : t < 3) (ht30 : (t : Int) < 3) (ht31 : (0 : Int) ≤ (t : Int)) (hn2 : 2 ≤ n ∧ n ≤ 16)
  (hQ : ∀ (v : Nat → Value) (W : World), J6 B w6 ge n t (fun _ => true) v W → True → Q .normal ⟨(u0 :: u1 :: u2 :: u3 :: u4 :: Value.int .i64 (n : Nat) :: u6 :: Value.int .i64 (t : Nat) :: Value.pointer (some ⟨ge, 0, none⟩) :: (v 13) :: u10 :: u11 :: u12 :: u13 :: u14 :: u15 :: u16 :: u17 :: u18 :: u19 :: u20 :: u21 :: u22 :: u23 :: u24 :: u25 :: u26 :: u27 :: u28 :: u29 :: u30 :: u31 :: u32 :: u33 :: u34 :: u35 :: u36 :: u37 :: u38 :: u39 :: u40 :: u41 :: u42 :: u43 :: u44 :: u45 :: u46 :: u47 :: u48 :: u49 :: u50 :: u51 :: u52 :: u53 :: u54 :: u55 :: u56 :: u57 :: u58 :: u59 :: u60 :: u61 :: u62 :: u63 :: u64 :: u65 :: u66 :: u67 :: u68 :: u69 :: u70 :: u71 :: u72 :: (v 0) :: (v 1) :: (v 2) :: (v 3) :: (v 4) :: (v 5) :: (v 6) :: (v 7) :: (v 8) :: (v 9) :: (v 10) :: (v 11) :: (v 12) :: u86 :: u87 :: u88 :: u89 :: u90 :: u91 :: u92 :: u93 :: u94 :: u95 :: u96 :: u97 :: u98 :: u99 :: u100 :: u101 :: u102 :: u103 :: u104 :: u105 :: u106 :: u107 :: u108 :: u109 :: u110 :: u111 :: u112 :: u113 :: u114 :: u115 :: u116 :: u117 :: u118 :: u119 :: u120 :: u121 :: u122 :: u123 :: u124 :: u125 :: u126 :: u127 :: u128 :: u129 :: u130 :: u131 :: u132 :: u133 :: u134 :: u135 :: u136 :: u137 :: u138 :: u139 :: u140 :: u141 :: u142 :: u143 :: u144 :: u145 :: u146 :: u147 :: u148 :: u149 :: u150 :: u151 :: u152 :: u153 :: u154 :: u155 :: u156 :: u157 :: u158 :: u159 :: u160 :: u161 :: u162 :: u163 :: u164 :: u165 :: u166 :: u167 :: u168 :: u169 :: u170 :: u171 :: u172 :: u173 :: u174 :: u175 :: u176 :: u177 :: u178 :: u179 :: u180 :: u181 :: u182 :: u183 :: u184 :: u185 :: u186 :: u187 :: u188 :: u189 :: u190 :: u191 :: u192 :: u193 :: u194 :: u195 :: u196 :: u197 :: u198 :: u199 :: u200 :: u201 :: u202 :: u203 :: u204 :: u205 :: u206 :: u207 :: u208 :: u209 :: u210 :: u211 :: u212 :: u213 :: u214 :: u215 :: u216 :: u217 :: u218 :: u219 :: []).toArray, []⟩ W) :
  code16.wp Try.prog Q ⟨(u0 :: u1 :: u2 :: u3 :: u4 :: Value.int .i64 (n : Nat) :: u6 :: Value.int .i64 (t : Nat) :: Value.pointer (some ⟨ge, 0, none⟩) :: u9 :: u10 :: u11 :: u12 :: u13 :: u14 :: u15 :: u16 :: u17 :: u18 :: u19 :: u20 :: u21 :: u22 :: u23 :: u24 :: u25 :: u26 :: u27 :: u28 :: u29 :: u30 :: u31 :: u32 :: u33 :: u34 :: u35 :: u36 :: u37 :: u38 :: u39 :: u40 :: u41 :: u42 :: u43 :: u44 :: u45 :: u46 :: u47 :: u48 :: u49 :: u50 :: u51 :: u52 :: u53 :: u54 :: u55 :: u56 :: u57 :: u58 :: u59 :: u60 :: u61 :: u62 :: u63 :: u64 :: u65 :: u66 :: u67 :: u68 :: u69 :: u70 :: u71 :: u72 :: u73 :: u74 :: u75 :: u76 :: u77 :: u78 :: u79 :: u80 :: u81 :: u82 :: u83 :: u84 :: u85 :: u86 :: u87 :: u88 :: u89 :: u90 :: u91 :: u92 :: u93 :: u94 :: u95 :: u96 :: u97 :: u98 :: u99 :: u100 :: u101 :: u102 :: u103 :: u104 :: u105 :: u106 :: u107 :: u108 :: u109 :: u110 :: u111 :: u112 :: u113 :: u114 :: u115 :: u116 :: u117 :: u118 :: u119 :: u120 :: u121 :: u122 :: u123 :: u124 :: u125 :: u126 :: u127 :: u128 :: u129 :: u130 :: u131 :: u132 :: u133 :: u134 :: u135 :: u136 :: u137 :: u138 :: u139 :: u140 :: u141 :: u142 :: u143 :: u144 :: u145 :: u146 :: u147 :: u148 :: u149 :: u150 :: u151 :: u152 :: u153 :: u154 :: u155 :: u156 :: u157 :: u158 :: u159 :: u160 :: u161 :: u162 :: u163 :: u164 :: u165 :: u166 :: u167 :: u168 :: u169 :: u170 :: u171 :: u172 :: u173 :: u174 :: u175 :: u176 :: u177 :: u178 :: u179 :: u180 :: u181 :: u182 :: u183 :: u184 :: u185 :: u186 :: u187 :: u188 :: u189 :: u190 :: u191 :: u192 :: u193 :: u194 :: u195 :: u196 :: u197 :: u198 :: u199 :: u200 :: u201 :: u202 :: u203 :: u204 :: u205 :: u206 :: u207 :: u208 :: u209 :: u210 :: u211 :: u212 :: u213 :: u214 :: u215 :: u216 :: u217 :: u218 :: u219 :: []).toArray, []⟩ w6 := by
 conv => arg 2; whnf
 refine wp_region_held_drew (S := (fun _ => True)) (by kernel_rfl) (trivial) (fun hHeld => ?_)
 refine wpAnyH_by_invF [0, 1, 2, 3, 4, 5, 6, 7, 8, 9, 10, 11, 12, 13, 14] (fun e v W => J6 B w6 ge n t e v W) (F := ?F204) (by kernel_rfl) (by kernel_rfl) (by decide) hHeld (fun v => ?hF204) ?init204 (by kernel_rfl) ?steps204 ?fin204
 case hF204 => (simp only [putAll, dstOf, List.getElem?_toArray, List.getElem?_cons_succ, List.getElem?_cons_zero, Option.bind, Act.put, List.setIfInBounds_toArray, List.set_cons_succ, List.set_cons_zero]; rfl)
 case init204 =>
  intro e v he
  exact J6.init HDE.out he
 case steps204 =>
  refine StepsOf.cons rfl (fun e v W K hJ hW he hd hK => ?_) ?_
  ·simp only [List.getElem_toArray, List.getElem_cons_succ, List.getElem_cons_zero] at hd hK ⊢
   go_simp
   exact hK.out _ _ _ (by rfl) trivial (hJ.s0 hB0 _ _ _)
  refine StepsOf.cons rfl (fun e v W K hJ hW he hd hK => ?_) ?_
  ·simp only [List.getElem_toArray, List.getElem_cons_succ, List.getElem_cons_zero] at hd hK ⊢
   go_simp
   exact hK.out _ _ _ (by rfl) trivial hJ.s1
  refine StepsOf.cons rfl (fun e v W K hJ hW he hd hK => ?_) ?_
  ·simp only [List.getElem_toArray, List.getElem_cons_succ, List.getElem_cons_zero] at hd hK ⊢
   obtain ⟨g, a, b, c, hv0, hg0, hb0⟩ := hJ.v0 (deps_of hd [0, 1] (by kernel_rfl) 0 (by simp))
   have hv1 := hJ.v1 (deps_of hd [0, 1] (by kernel_rfl) 1 (by simp))
   go_simp
   exact hK.out _ _ _ (by simp [Act.put, hv0, hv1]) trivial (hJ.s2 hg0 hb0)
  refine StepsOf.cons rfl (fun e v W K hJ hW he hd hK => ?_) ?_
  ·simp only [List.getElem_toArray, List.getElem_cons_succ, List.getElem_cons_zero] at hd hK ⊢
   obtain ⟨g, a, b, c, hv2, hg0, hb0⟩ := hJ.v2 (deps_of hd [2] (by kernel_rfl) 2 (by simp))
   obtain ⟨s, hs⟩ := strAt hb0 ht3
   go_simp
   exact hK.out _ _ _ (by simp [Act.put, hv2]) trivial (hJ.s3 he s)
  refine StepsOf.cons rfl (fun e v W K hJ hW he hd hK => ?_) ?_
  ·simp only [List.getElem_toArray, List.getElem_cons_succ, List.getElem_cons_zero] at hd hK ⊢
   go_simp
   exact hK.out _ _ _ (by rfl) trivial hJ.s4
  refine StepsOf.cons rfl (fun e v W K hJ hW he hd hK => ?_) ?_
  ·simp only [List.getElem_toArray, List.getElem_cons_succ, List.getElem_cons_zero] at hd hK ⊢
   go_simp
   exact hK.out _ _ _ (by rfl) trivial hJ.s5
  refine StepsOf.cons rfl (fun e v W K hJ hW he hd hK => ?_) ?_
  ·simp only [List.getElem_toArray, List.getElem_cons_succ, List.getElem_cons_zero] at hd hK ⊢
   have hva := hJ.v4 (deps_of hd [4, 5] (by kernel_rfl) 4 (by simp))
   have hvb := hJ.v5 (deps_of hd [4, 5] (by kernel_rfl) 5 (by simp))
   go_simp
   go_at_call 80
   refine (drawE_calls (n : Int) hJ.dr (by omega) (by omega)).mono ?_
   rintro e9 w9 ⟨x, rfl, hx1, hx2, hd9, hg9⟩
   go_simp
   exact hK.out _ _ _ (by simp [Act.put, hva, hvb]) trivial (hJ.s6 hl0 hg9 hd9 hx1 hx2)
  refine StepsOf.cons rfl (fun e v W K hJ hW he hd hK => ?_) ?_
  ·simp only [List.getElem_toArray, List.getElem_cons_succ, List.getElem_cons_zero] at hd hK ⊢
   obtain ⟨x, hv6, hx1, hx2⟩ := hJ.v6 (deps_of hd [6] (by kernel_rfl) 6 (by simp))
   go_simp
   exact hK.out _ _ _ (by simp [Act.put, hv6]) trivial (hJ.s7 hB0 he hx1 hx2)
  refine StepsOf.cons rfl (fun e v W K hJ hW he hd hK => ?_) ?_
  ·simp only [List.getElem_toArray, List.getElem_cons_succ, List.getElem_cons_zero] at hd hK ⊢
   go_simp
   exact hK.out _ _ _ (by rfl) trivial hJ.s8
  refine StepsOf.cons rfl (fun e v W K hJ hW he hd hK => ?_) ?_
  ·simp only [List.getElem_toArray, List.getElem_cons_succ, List.getElem_cons_zero] at hd hK ⊢
   go_simp
   exact hK.out _ _ _ (by rfl) trivial hJ.s9
  refine StepsOf.cons rfl (fun e v W K hJ hW he hd hK => ?_) ?_
  ·simp only [List.getElem_toArray, List.getElem_cons_succ, List.getElem_cons_zero] at hd hK ⊢
   have hva := hJ.v8 (deps_of hd [8, 9] (by kernel_rfl) 8 (by simp))
   have hvb := hJ.v9 (deps_of hd [8, 9] (by kernel_rfl) 9 (by simp))
   go_simp
   go_at_call 80
   refine (drawE_calls (n : Int) hJ.dr (by omega) (by omega)).mono ?_
   rintro e9 w9 ⟨x, rfl, hx1, hx2, hd9, hg9⟩
   go_simp
   exact hK.out _ _ _ (by simp [Act.put, hva, hvb]) trivial (hJ.s10 hl0 hg9 hd9 hx1 hx2)
  refine StepsOf.cons rfl (fun e v W K hJ hW he hd hK => ?_) ?_
  ·simp only [List.getElem_toArray, List.getElem_cons_succ, List.getElem_cons_zero] at hd hK ⊢
   obtain ⟨x, hv6, hx1, hx2⟩ := hJ.v10 (deps_of hd [10] (by kernel_rfl) 10 (by simp))
   go_simp
   exact hK.out _ _ _ (by simp [Act.put, hv6]) trivial (hJ.s11 hB0 he hx1 hx2)
  refine StepsOf.cons rfl (fun e v W K hJ hW he hd hK => ?_) ?_
  ·simp only [List.getElem_toArray, List.getElem_cons_succ, List.getElem_cons_zero] at hd hK ⊢
   have h3 := (deps_of hd [3, 7, 11] (by kernel_rfl) 3 (by simp))
   have h7 := (deps_of hd [3, 7, 11] (by kernel_rfl) 7 (by simp))
   have h11 := (deps_of hd [3, 7, 11] (by kernel_rfl) 11 (by simp))
   obtain ⟨s, hv3⟩ := hJ.v3 h3
   obtain ⟨g7, x7, hv7, -, -, -⟩ := hJ.v7 h7
   obtain ⟨g11, x11, hv11, -, -, -⟩ := hJ.v11 h11
   go_simp
   exact hK.out _ (.agg #[v 3, v 7, v 11]) _ (by simp [Act.put, hv3, hv7, hv11]) trivial (hJ.s12 h3 h7 h11)
  refine StepsOf.cons rfl (fun e v W K hJ hW he hd hK => ?_) ?_
  ·simp only [List.getElem_toArray, List.getElem_cons_succ, List.getElem_cons_zero] at hd hK ⊢
   go_simp
   exact hK.out _ _ _ (by rfl) trivial (hJ.s13 hB0 he)
  refine StepsOf.cons rfl (fun e v W K hJ hW he hd hK => ?_) ?_
  ·simp only [List.getElem_toArray, List.getElem_cons_succ, List.getElem_cons_zero] at hd hK ⊢
   have h12 := (deps_of hd [12, 13] (by kernel_rfl) 12 (by simp))
   have h13 := (deps_of hd [12, 13] (by kernel_rfl) 13 (by simp))
   obtain ⟨hv12, h3, h7, h11⟩ := hJ.v12 h12
   obtain ⟨s, hv3⟩ := hJ.v3 h3
   obtain ⟨g7, x7, hv7, -, -, -⟩ := hJ.v7 h7
   obtain ⟨g11, x11, hv11, -, -, -⟩ := hJ.v11 h11
   obtain ⟨g, hv13, hg13, hb13, -⟩ := hJ.v13 h13
   have hb13 := hb13 he
   have hc0 : W.cell? ⟨g, 0, none⟩ = some (.string ⟨#[]⟩) := hb13.cell (k := 0) rfl
   have hc1 : W.cell? ⟨g, 1, none⟩ = some (.slice none 0 0) := hb13.cell (k := 1) rfl
   have hc2 : W.cell? ⟨g, 2, none⟩ = some (.slice none 0 0) := hb13.cell (k := 2) rfl
   have hf := fun k => hb13.frozen k
   have hfin := hJ.s14 (x := undef) hB0 h12 h13 hv13 hg13 hb13 hl0
   have hv12' := hv12
   rw [hv3, hv7, hv11] at hv12' hfin
   have HFIN := Lib.hid hfin
   clear hfin hv12 hb13
   go_simp
   exact hK.out _ undef _ (by simp [Act.put, hv12', hv13, hv3, hv7, hv11]) trivial HFIN.out
  exact StepsOf.nil
 case fin204 =>
  intro v W hJ _
  exact hQ v W hJ trivial

set_option maxHeartbeats 4000000 in
set_option maxRecDepth 1000000 in
theorem r18_wp {wR wb : World} {Q : Exit → Act → World → Prop} {ge gt B n g7 g11 : Nat} {s : ByteArray} {x1 x2 : Int} {u0 u1 u2 u3 u4 u6 u7 u10 u11 u12 u13 u14 u15 u16 u17 u18 u19 u20 u21 u22 u23 u24 u25 u26 u27 u28 u29 u30 u31 u32 u33 u34 u35 u36 u37 u38 u39 u40 u41 u42 u43 u44 u45 u46 u47 u48 u49 u50 u51 u52 u53 u54 u55 u56 u57 u58 u59 u60 u61 u62 u63 u64 u65 u66 u67 u68 u69 u70 u71 u72 u73 u74 u75 u76 u77 u78 u79 u80 u81 u82 u83 u84 u85 u86 u87 u88 u89 u90 u91 u92 u93 u94 u95 u96 u97 u98 u99 u100 u101 u102 u103 u104 u105 u106 u107 u108 u109 u110 u111 u112 u113 u114 u115 u116 u117 u118 u119 u120 u121 u122 u123 u124 u125 u126 u127 u128 u129 u130 u131 u132 u133 u134 u135 u136 u137 u138 u139 u140 u141 u142 u143 u144 u145 u146 u147 u148 u149 u150 u151 u152 u153 u154 u155 u156 u157 u158 u159 u160 u161 u162 u163 u164 u165 u166 u167 u168 u169 u170 u171 u172 u173 u174 u175 u176 u177 u178 u179 u180 u181 u182 u183 u184 u185 u186 u187 u188 u189 u190 u191 u192 u193 u194 u195 u196 u197 u198 u199 u200 u201 u202 u203 u204 u205 u206 u207 u208 u209 u210 u211 u212 u213 u214 u215 u216 u217 u218 u219 : Value}
  (HR1b : Hid (R1 B wb wR.heap.size ge gt n s (.slice (some ⟨g7, 0, none⟩) 1 1) (.slice (some ⟨g11, 0, none⟩) 1 1) [x1] [x2])) (HEWb : Hid (Ext wR wb)) (hn2 : 2 ≤ n ∧ n ≤ 16)
  (hP : ∀ c (a a' : Act) w, a.defers = a'.defers → Q (.panic c) a w → Q (.panic c) a' w)
  (hQ : ∀ (u : Value) (l : List Int) (W : World), Hid (R1 B W wR.heap.size ge gt n s u (.slice (some ⟨g11, 0, none⟩) 1 1) l [x2] ∧ Ext wR W ∧ l.length ≤ 2) → ∀ (x89 x90 x91 x92 x93 x94 x95 x96 : Value), Q .normal ⟨(u0 :: u1 :: u2 :: u3 :: u4 :: Value.int .i64 (n : Nat) :: u6 :: u7 :: Value.pointer (some ⟨ge, 0, none⟩) :: Value.pointer (some ⟨gt, 0, none⟩) :: u10 :: u11 :: u12 :: u13 :: u14 :: u15 :: u16 :: u17 :: u18 :: u19 :: u20 :: u21 :: u22 :: u23 :: u24 :: u25 :: u26 :: u27 :: u28 :: u29 :: u30 :: u31 :: u32 :: u33 :: u34 :: u35 :: u36 :: u37 :: u38 :: u39 :: u40 :: u41 :: u42 :: u43 :: u44 :: u45 :: u46 :: u47 :: u48 :: u49 :: u50 :: u51 :: u52 :: u53 :: u54 :: u55 :: u56 :: u57 :: u58 :: u59 :: u60 :: u61 :: u62 :: u63 :: u64 :: u65 :: u66 :: u67 :: u68 :: u69 :: u70 :: u71 :: u72 :: u73 :: u74 :: u75 :: u76 :: u77 :: u78 :: u79 :: u80 :: u81 :: u82 :: u83 :: u84 :: u85 :: u86 :: u87 :: u88 :: x89 :: x90 :: x91 :: x92 :: x93 :: x94 :: x95 :: x96 :: u97 :: u98 :: u99 :: u100 :: u101 :: u102 :: u103 :: u104 :: u105 :: u106 :: u107 :: u108 :: u109 :: u110 :: u111 :: u112 :: u113 :: u114 :: u115 :: u116 :: u117 :: u118 :: u119 :: u120 :: u121 :: u122 :: u123 :: u124 :: u125 :: u126 :: u127 :: u128 :: u129 :: u130 :: u131 :: u132 :: u133 :: u134 :: u135 :: u136 :: u137 :: u138 :: u139 :: u140 :: u141 :: u142 :: u143 :: u144 :: u145 :: u146 :: u147 :: u148 :: u149 :: u150 :: u151 :: u152 :: u153 :: u154 :: u155 :: u156 :: u157 :: u158 :: u159 :: u160 :: u161 :: u162 :: u163 :: u164 :: u165 :: u166 :: u167 :: u168 :: u169 :: u170 :: u171 :: u172 :: u173 :: u174 :: u175 :: u176 :: u177 :: u178 :: u179 :: u180 :: u181 :: u182 :: u183 :: u184 :: u185 :: u186 :: u187 :: u188 :: u189 :: u190 :: u191 :: u192 :: u193 :: u194 :: u195 :: u196 :: u197 :: u198 :: u199 :: u200 :: u201 :: u202 :: u203 :: u204 :: u205 :: u206 :: u207 :: u208 :: u209 :: u210 :: u211 :: u212 :: u213 :: u214 :: u215 :: u216 :: u217 :: u218 :: u219 :: []).toArray, []⟩ W) :
  code18.wp Try.prog Q ⟨(u0 :: u1 :: u2 :: u3 :: u4 :: Value.int .i64 (n : Nat) :: u6 :: u7 :: Value.pointer (some ⟨ge, 0, none⟩) :: Value.pointer (some ⟨gt, 0, none⟩) :: u10 :: u11 :: u12 :: u13 :: u14 :: u15 :: u16 :: u17 :: u18 :: u19 :: u20 :: u21 :: u22 :: u23 :: u24 :: u25 :: u26 :: u27 :: u28 :: u29 :: u30 :: u31 :: u32 :: u33 :: u34 :: u35 :: u36 :: u37 :: u38 :: u39 :: u40 :: u41 :: u42 :: u43 :: u44 :: u45 :: u46 :: u47 :: u48 :: u49 :: u50 :: u51 :: u52 :: u53 :: u54 :: u55 :: u56 :: u57 :: u58 :: u59 :: u60 :: u61 :: u62 :: u63 :: u64 :: u65 :: u66 :: u67 :: u68 :: u69 :: u70 :: u71 :: u72 :: u73 :: u74 :: u75 :: u76 :: u77 :: u78 :: u79 :: u80 :: u81 :: u82 :: u83 :: u84 :: u85 :: u86 :: u87 :: u88 :: u89 :: u90 :: u91 :: u92 :: u93 :: u94 :: u95 :: u96 :: u97 :: u98 :: u99 :: u100 :: u101 :: u102 :: u103 :: u104 :: u105 :: u106 :: u107 :: u108 :: u109 :: u110 :: u111 :: u112 :: u113 :: u114 :: u115 :: u116 :: u117 :: u118 :: u119 :: u120 :: u121 :: u122 :: u123 :: u124 :: u125 :: u126 :: u127 :: u128 :: u129 :: u130 :: u131 :: u132 :: u133 :: u134 :: u135 :: u136 :: u137 :: u138 :: u139 :: u140 :: u141 :: u142 :: u143 :: u144 :: u145 :: u146 :: u147 :: u148 :: u149 :: u150 :: u151 :: u152 :: u153 :: u154 :: u155 :: u156 :: u157 :: u158 :: u159 :: u160 :: u161 :: u162 :: u163 :: u164 :: u165 :: u166 :: u167 :: u168 :: u169 :: u170 :: u171 :: u172 :: u173 :: u174 :: u175 :: u176 :: u177 :: u178 :: u179 :: u180 :: u181 :: u182 :: u183 :: u184 :: u185 :: u186 :: u187 :: u188 :: u189 :: u190 :: u191 :: u192 :: u193 :: u194 :: u195 :: u196 :: u197 :: u198 :: u199 :: u200 :: u201 :: u202 :: u203 :: u204 :: u205 :: u206 :: u207 :: u208 :: u209 :: u210 :: u211 :: u212 :: u213 :: u214 :: u215 :: u216 :: u217 :: u218 :: u219 :: []).toArray, []⟩ wb := by
 obtain ⟨iI, ji, jz0, jz1, jz2⟩ := info_parts Try.infoInt
 have JF := Lib.hid ji
 have JZ0 := Lib.hid jz0
 have JZ1 := Lib.hid jz1
 have JZ2 := Lib.hid jz2
 clear ji jz0 jz1 jz2
 conv => arg 2; whnf
 refine wp_region_held_drew (S := fun _ => True) mixedA trivial (fun hHeld => ?_)
 have HA0 := Lib.hid (HR1b.out.ext ((Ext.refl wb).drew))
 have HE0' : Hid (Ext wR wb.drew) := HEWb.out.drew
 refine wpAnyH_take (i := 0) (v := ?v205) rfl (by kernel_rfl) (by kernel_rfl) (by kernel_rfl) (fun _ _ _ h => hP _ _ _ _ (by rfl) h) (Or.inl ⟨?w205, ?y205⟩) hHeld ?r205
 case w205 => rfl
 case y205 => (intro w hSw; go_simp; try with_reducible rfl)
 simp only [rtPr, Act.put]
 refine wpAnyH_take (i := 2) (v := ?v206) rfl (by kernel_rfl) (by kernel_rfl) (by kernel_rfl) (fun _ _ _ h => hP _ _ _ _ (by rfl) h) (Or.inl ⟨?w206, ?y206⟩) hHeld ?r206
 case w206 => rfl
 case y206 => (intro w hSw; go_simp; try with_reducible rfl)
 simp only [rtPr, Act.put]
 refine wpAnyH_take (i := 3) (v := ?v207) rfl (by kernel_rfl) (by kernel_rfl) (by kernel_rfl) (fun _ _ _ h => hP _ _ _ _ (by rfl) h) (Or.inl ⟨?w207, ?y207⟩) hHeld ?r207
 case w207 => rfl
 case y207 => (intro w hSw; go_simp; try with_reducible rfl)
 simp only [rtPr, Act.put]
 refine wpAnyH_ready (rs := [1, 4]) (by kernel_rfl) (by simp) ?_
 refine AllReadyH.cons rfl (fun K hK => ?_) ?_
 ·have hcl : wb.drew.cell? ⟨gt, 1, none⟩ = some (.slice (some ⟨g7, 0, none⟩) 1 1) := HA0.out.tk.cell (k := 1) rfl
  go_simp
  clear hcl
  refine hK.out _ _ trivial (fun hHeld => ?_)
  clear hK K
  try simp only [rtPr, Act.put]
  refine wpAnyH_ready (rs := [4]) (by kernel_rfl) (by simp) ?_
  refine AllReadyH.cons rfl (fun K hK => ?_) ?_
  ·go_simp
   go_at_call 80
   refine (drawE_calls (n : Int) HA0.out.dr (by omega) (by omega)).mono ?_
   rintro e wd2 ⟨xq, rfl, hq0, hq1, hdq, hgq⟩
   have HA2 := Lib.hid (HA0.out.drawn hdq hgq)
   have HE2' : Hid (Ext wR wd2) := HA0.out.drawnExt HE0'.out hgq
   clear hdq hgq
   go_simp
   refine hK.out _ _ trivial (fun hHeld => ?_)
   clear hK K
   try simp only [rtPr, Act.put]
   refine wpAnyH_ready (rs := [5]) (by kernel_rfl) (by simp) ?_
   refine AllReadyH.cons rfl (fun K hK => ?_) ?_
   ·go_simp
    refine hK.out _ _ trivial (fun hHeld => ?_)
    clear hK K
    try simp only [rtPr, Act.put]
    refine wpAnyH_ready (rs := [6]) (by kernel_rfl) (by simp) ?_
    refine AllReadyH.cons rfl (fun K hK => ?_) ?_
    ·have hct : wd2.cell? ⟨gt, 1, none⟩ = some (.slice (some ⟨g7, 0, none⟩) 1 1) := HA2.out.tk.cell (k := 1) rfl
     have hft : wd2.frozen? ⟨gt, 1, none⟩ = false := HA2.out.tk.frozen 1
     skip
     refine step_append_lies (P := Try.prog) _ (by rfl) _ _ 24 (by rfl) wR.heap.size 3 iI (.int .i64 0) 1 8 Try.underlying24 JF.out JZ0.out JZ1.out JZ2.out rfl (by decide) (.slice (some ⟨g7, 0, none⟩) 1 1) [x1].length _ (by rfl) (World.ownsRow.alloc HA2.out.o1 _) ⟨wd2.heap.size, 0, none⟩ 1 1 [.int .i64 xq] (by rfl) rfl (cell_one_new _ _ _) (by simp [Value.oneCell']) (by decide) (by unfold maxLen; simp) (by simp) (Nat.le_trans HE2'.out.size (by simp)) (wd2.heap.size + 1) (by simp) ?_
     intro gq cq w9 hown hg hv _
     obtain ⟨hr9, hb9⟩ := HA2.out.add1 ⟨hq0, hq1⟩ hown hg (by rcases hv with hv | hv; exact .inl hv.symm; exact .inr (congrArg some hv))
     have hc9 : w9.cell? ⟨gt, 1, none⟩ = some (.slice (some ⟨g7, 0, none⟩) 1 1) := (World.cell?_of_block (a := ⟨gt, 1, none⟩) (hg.block gt (by have := lt_of_some HA2.out.tk; simp; omega) (fun e => own_blk_ne HA2.out.o1 HA2.out.tk (by decide) e.symm))).trans ((World.cell?_of_block (a := ⟨gt, 1, none⟩) (Below.heap_alloc _ _ _ (lt_of_some HA2.out.tk))).trans hct)
     have hf9 : w9.frozen? ⟨gt, 1, none⟩ = false := (World.frozen?_of_block (a := ⟨gt, 1, none⟩) (hg.block gt (by have := lt_of_some HA2.out.tk; simp; omega) (fun e => own_blk_ne HA2.out.o1 HA2.out.tk (by decide) e.symm))).trans ((World.frozen?_of_block (a := ⟨gt, 1, none⟩) (Below.heap_alloc _ _ _ (lt_of_some HA2.out.tk))).trans hft)
     have HR9 := Lib.hid hr9
     have HB9 : Hid (Ext wR _) := Below.trans HE2'.out hb9
     clear hr9 hb9 hown hg hv hct hft
     refine hK.out _ _ trivial (fun hHeld => ?_)
     clear hK K
     try simp only [rtPr, Act.put]
     refine wpAnyH_ready (rs := [7]) (by kernel_rfl) (by simp) ?_
     refine AllReadyH.cons rfl (fun K hK => ?_) ?_
     ·go_simp
      refine hK.out _ _ trivial (fun hHeld => ?_)
      clear hK K
      try simp only [rtPr, Act.put]
      refine wpAnyH_ready (rs := [8]) (by kernel_rfl) (by simp) ?_
      refine AllReadyH.cons rfl (fun K hK => ?_) ?_
      ·go_simp
       refine hK.out _ _ trivial (fun hHeld => ?_)
       clear hK K
       try simp only [rtPr, Act.put]
       refine wpAnyH_done (by kernel_rfl) ?_ _
       exact hQ _ _ _ ⟨HR9.out, HB9.out, by simp⟩ _ _ _ _ _ _ _ _
      exact AllReadyH.nil
     exact AllReadyH.nil
    exact AllReadyH.nil
   exact AllReadyH.nil
  exact AllReadyH.nil
 refine AllReadyH.cons rfl (fun K hK => ?_) ?_
 ·go_simp
  go_at_call 80
  refine (drawE_calls (n : Int) HA0.out.dr (by omega) (by omega)).mono ?_
  rintro e wd7 ⟨xq, rfl, hq0, hq1, hdq, hgq⟩
  have HA7 := Lib.hid (HA0.out.drawn hdq hgq)
  have HE7' : Hid (Ext wR wd7) := HA0.out.drawnExt HE0'.out hgq
  clear hdq hgq
  go_simp
  refine hK.out _ _ trivial (fun hHeld => ?_)
  clear hK K
  try simp only [rtPr, Act.put]
  refine wpAnyH_ready (rs := [1, 5]) (by kernel_rfl) (by simp) ?_
  refine AllReadyH.cons rfl (fun K hK => ?_) ?_
  ·have hcl : wd7.cell? ⟨gt, 1, none⟩ = some (.slice (some ⟨g7, 0, none⟩) 1 1) := HA7.out.tk.cell (k := 1) rfl
   go_simp
   clear hcl
   refine hK.out _ _ trivial (fun hHeld => ?_)
   clear hK K
   try simp only [rtPr, Act.put]
   refine wpAnyH_ready (rs := [5]) (by kernel_rfl) (by simp) ?_
   refine AllReadyH.cons rfl (fun K hK => ?_) ?_
   ·go_simp
    refine hK.out _ _ trivial (fun hHeld => ?_)
    clear hK K
    try simp only [rtPr, Act.put]
    refine wpAnyH_ready (rs := [6]) (by kernel_rfl) (by simp) ?_
    refine AllReadyH.cons rfl (fun K hK => ?_) ?_
    ·have hct : wd7.cell? ⟨gt, 1, none⟩ = some (.slice (some ⟨g7, 0, none⟩) 1 1) := HA7.out.tk.cell (k := 1) rfl
     have hft : wd7.frozen? ⟨gt, 1, none⟩ = false := HA7.out.tk.frozen 1
     skip
     refine step_append_lies (P := Try.prog) _ (by rfl) _ _ 24 (by rfl) wR.heap.size 3 iI (.int .i64 0) 1 8 Try.underlying24 JF.out JZ0.out JZ1.out JZ2.out rfl (by decide) (.slice (some ⟨g7, 0, none⟩) 1 1) [x1].length _ (by rfl) (World.ownsRow.alloc HA7.out.o1 _) ⟨wd7.heap.size, 0, none⟩ 1 1 [.int .i64 xq] (by rfl) rfl (cell_one_new _ _ _) (by simp [Value.oneCell']) (by decide) (by unfold maxLen; simp) (by simp) (Nat.le_trans HE7'.out.size (by simp)) (wd7.heap.size + 1) (by simp) ?_
     intro gq cq w9 hown hg hv _
     obtain ⟨hr9, hb9⟩ := HA7.out.add1 ⟨hq0, hq1⟩ hown hg (by rcases hv with hv | hv; exact .inl hv.symm; exact .inr (congrArg some hv))
     have hc9 : w9.cell? ⟨gt, 1, none⟩ = some (.slice (some ⟨g7, 0, none⟩) 1 1) := (World.cell?_of_block (a := ⟨gt, 1, none⟩) (hg.block gt (by have := lt_of_some HA7.out.tk; simp; omega) (fun e => own_blk_ne HA7.out.o1 HA7.out.tk (by decide) e.symm))).trans ((World.cell?_of_block (a := ⟨gt, 1, none⟩) (Below.heap_alloc _ _ _ (lt_of_some HA7.out.tk))).trans hct)
     have hf9 : w9.frozen? ⟨gt, 1, none⟩ = false := (World.frozen?_of_block (a := ⟨gt, 1, none⟩) (hg.block gt (by have := lt_of_some HA7.out.tk; simp; omega) (fun e => own_blk_ne HA7.out.o1 HA7.out.tk (by decide) e.symm))).trans ((World.frozen?_of_block (a := ⟨gt, 1, none⟩) (Below.heap_alloc _ _ _ (lt_of_some HA7.out.tk))).trans hft)
     have HR9 := Lib.hid hr9
     have HB9 : Hid (Ext wR _) := Below.trans HE7'.out hb9
     clear hr9 hb9 hown hg hv hct hft
     refine hK.out _ _ trivial (fun hHeld => ?_)
     clear hK K
     try simp only [rtPr, Act.put]
     refine wpAnyH_ready (rs := [7]) (by kernel_rfl) (by simp) ?_
     refine AllReadyH.cons rfl (fun K hK => ?_) ?_
     ·go_simp
      refine hK.out _ _ trivial (fun hHeld => ?_)
      clear hK K
      try simp only [rtPr, Act.put]
      refine wpAnyH_ready (rs := [8]) (by kernel_rfl) (by simp) ?_
      refine AllReadyH.cons rfl (fun K hK => ?_) ?_
      ·go_simp
       refine hK.out _ _ trivial (fun hHeld => ?_)
       clear hK K
       try simp only [rtPr, Act.put]
       refine wpAnyH_done (by kernel_rfl) ?_ _
       exact hQ _ _ _ ⟨HR9.out, HB9.out, by simp⟩ _ _ _ _ _ _ _ _
      exact AllReadyH.nil
     exact AllReadyH.nil
    exact AllReadyH.nil
   exact AllReadyH.nil
  refine AllReadyH.cons rfl (fun K hK => ?_) ?_
  ·go_simp
   refine hK.out _ _ trivial (fun hHeld => ?_)
   clear hK K
   try simp only [rtPr, Act.put]
   refine wpAnyH_ready (rs := [1]) (by kernel_rfl) (by simp) ?_
   refine AllReadyH.cons rfl (fun K hK => ?_) ?_
   ·have hcl : (wd7.alloc (.cells #[.int .i64 xq] 3)).cell? ⟨gt, 1, none⟩ = some (.slice (some ⟨g7, 0, none⟩) 1 1) := (HA7.out.ext ((Ext.refl _).alloc (.cells #[.int .i64 xq] 3))).tk.cell (k := 1) rfl
    go_simp
    clear hcl
    refine hK.out _ _ trivial (fun hHeld => ?_)
    clear hK K
    try simp only [rtPr, Act.put]
    refine wpAnyH_ready (rs := [6]) (by kernel_rfl) (by simp) ?_
    refine AllReadyH.cons rfl (fun K hK => ?_) ?_
    ·have hct : wd7.cell? ⟨gt, 1, none⟩ = some (.slice (some ⟨g7, 0, none⟩) 1 1) := HA7.out.tk.cell (k := 1) rfl
     have hft : wd7.frozen? ⟨gt, 1, none⟩ = false := HA7.out.tk.frozen 1
     skip
     refine step_append_lies (P := Try.prog) _ (by rfl) _ _ 24 (by rfl) wR.heap.size 3 iI (.int .i64 0) 1 8 Try.underlying24 JF.out JZ0.out JZ1.out JZ2.out rfl (by decide) (.slice (some ⟨g7, 0, none⟩) 1 1) [x1].length _ (by rfl) (World.ownsRow.alloc HA7.out.o1 _) ⟨wd7.heap.size, 0, none⟩ 1 1 [.int .i64 xq] (by rfl) rfl (cell_one_new _ _ _) (by simp [Value.oneCell']) (by decide) (by unfold maxLen; simp) (by simp) (Nat.le_trans HE7'.out.size (by simp)) (wd7.heap.size + 1) (by simp) ?_
     intro gq cq w9 hown hg hv _
     obtain ⟨hr9, hb9⟩ := HA7.out.add1 ⟨hq0, hq1⟩ hown hg (by rcases hv with hv | hv; exact .inl hv.symm; exact .inr (congrArg some hv))
     have hc9 : w9.cell? ⟨gt, 1, none⟩ = some (.slice (some ⟨g7, 0, none⟩) 1 1) := (World.cell?_of_block (a := ⟨gt, 1, none⟩) (hg.block gt (by have := lt_of_some HA7.out.tk; simp; omega) (fun e => own_blk_ne HA7.out.o1 HA7.out.tk (by decide) e.symm))).trans ((World.cell?_of_block (a := ⟨gt, 1, none⟩) (Below.heap_alloc _ _ _ (lt_of_some HA7.out.tk))).trans hct)
     have hf9 : w9.frozen? ⟨gt, 1, none⟩ = false := (World.frozen?_of_block (a := ⟨gt, 1, none⟩) (hg.block gt (by have := lt_of_some HA7.out.tk; simp; omega) (fun e => own_blk_ne HA7.out.o1 HA7.out.tk (by decide) e.symm))).trans ((World.frozen?_of_block (a := ⟨gt, 1, none⟩) (Below.heap_alloc _ _ _ (lt_of_some HA7.out.tk))).trans hft)
     have HR9 := Lib.hid hr9
     have HB9 : Hid (Ext wR _) := Below.trans HE7'.out hb9
     clear hr9 hb9 hown hg hv hct hft
     refine hK.out _ _ trivial (fun hHeld => ?_)
     clear hK K
     try simp only [rtPr, Act.put]
     refine wpAnyH_ready (rs := [7]) (by kernel_rfl) (by simp) ?_
     refine AllReadyH.cons rfl (fun K hK => ?_) ?_
     ·go_simp
      refine hK.out _ _ trivial (fun hHeld => ?_)
      clear hK K
      try simp only [rtPr, Act.put]
      refine wpAnyH_ready (rs := [8]) (by kernel_rfl) (by simp) ?_
      refine AllReadyH.cons rfl (fun K hK => ?_) ?_
      ·go_simp
       refine hK.out _ _ trivial (fun hHeld => ?_)
       clear hK K
       try simp only [rtPr, Act.put]
       refine wpAnyH_done (by kernel_rfl) ?_ _
       exact hQ _ _ _ ⟨HR9.out, HB9.out, by simp⟩ _ _ _ _ _ _ _ _
      exact AllReadyH.nil
     exact AllReadyH.nil
    exact AllReadyH.nil
   exact AllReadyH.nil
  exact AllReadyH.nil
 exact AllReadyH.nil

set_option maxHeartbeats 4000000 in
set_option maxRecDepth 1000000 in
theorem r20_wp {wR wq : World} {Q : Exit → Act → World → Prop} {ge gt B n g11 : Nat} {s : ByteArray} {x2 : Int} {l1 : List Int} {u1' : Value} {u0 u1 u2 u3 u4 u6 u7 u10 u11 u12 u13 u14 u15 u16 u17 u18 u19 u20 u21 u22 u23 u24 u25 u26 u27 u28 u29 u30 u31 u32 u33 u34 u35 u36 u37 u38 u39 u40 u41 u42 u43 u44 u45 u46 u47 u48 u49 u50 u51 u52 u53 u54 u55 u56 u57 u58 u59 u60 u61 u62 u63 u64 u65 u66 u67 u68 u69 u70 u71 u72 u73 u74 u75 u76 u77 u78 u79 u80 u81 u82 u83 u84 u85 u86 u87 u88 u89 u90 u91 u92 u93 u94 u95 u96 u97 u98 u99 u100 u101 u102 u103 u104 u105 u106 u107 u108 u109 u110 u111 u112 u113 u114 u115 u116 u117 u118 u119 u120 u121 u122 u123 u124 u125 u126 u127 u128 u129 u130 u131 u132 u133 u134 u135 u136 u137 u138 u139 u140 u141 u142 u143 u144 u145 u146 u147 u148 u149 u150 u151 u152 u153 u154 u155 u156 u157 u158 u159 u160 u161 u162 u163 u164 u165 u166 u167 u168 u169 u170 u171 u172 u173 u174 u175 u176 u177 u178 u179 u180 u181 u182 u183 u184 u185 u186 u187 u188 u189 u190 u191 u192 u193 u194 u195 u196 u197 u198 u199 u200 u201 u202 u203 u204 u205 u206 u207 u208 u209 u210 u211 u212 u213 u214 u215 u216 u217 u218 u219 : Value}
  (HR2b : Hid (R1 B wq wR.heap.size ge gt n s u1' (.slice (some ⟨g11, 0, none⟩) 1 1) l1 [x2])) (HE2b : Hid (Ext wR wq)) (hn2 : 2 ≤ n ∧ n ≤ 16)
  (hP : ∀ c (a a' : Act) w, a.defers = a'.defers → Q (.panic c) a w → Q (.panic c) a' w)
  (hQ : ∀ (u : Value) (l : List Int) (W : World), Hid (R1 B W wR.heap.size ge gt n s u1' u l1 l ∧ Ext wR W ∧ l.length ≤ 2) → ∀ (x100 x101 x102 x103 x104 x105 x106 x107 : Value), Q .normal ⟨(u0 :: u1 :: u2 :: u3 :: u4 :: Value.int .i64 (n : Nat) :: u6 :: u7 :: Value.pointer (some ⟨ge, 0, none⟩) :: Value.pointer (some ⟨gt, 0, none⟩) :: u10 :: u11 :: u12 :: u13 :: u14 :: u15 :: u16 :: u17 :: u18 :: u19 :: u20 :: u21 :: u22 :: u23 :: u24 :: u25 :: u26 :: u27 :: u28 :: u29 :: u30 :: u31 :: u32 :: u33 :: u34 :: u35 :: u36 :: u37 :: u38 :: u39 :: u40 :: u41 :: u42 :: u43 :: u44 :: u45 :: u46 :: u47 :: u48 :: u49 :: u50 :: u51 :: u52 :: u53 :: u54 :: u55 :: u56 :: u57 :: u58 :: u59 :: u60 :: u61 :: u62 :: u63 :: u64 :: u65 :: u66 :: u67 :: u68 :: u69 :: u70 :: u71 :: u72 :: u73 :: u74 :: u75 :: u76 :: u77 :: u78 :: u79 :: u80 :: u81 :: u82 :: u83 :: u84 :: u85 :: u86 :: u87 :: u88 :: u89 :: u90 :: u91 :: u92 :: u93 :: u94 :: u95 :: u96 :: u97 :: u98 :: u99 :: x100 :: x101 :: x102 :: x103 :: x104 :: x105 :: x106 :: x107 :: u108 :: u109 :: u110 :: u111 :: u112 :: u113 :: u114 :: u115 :: u116 :: u117 :: u118 :: u119 :: u120 :: u121 :: u122 :: u123 :: u124 :: u125 :: u126 :: u127 :: u128 :: u129 :: u130 :: u131 :: u132 :: u133 :: u134 :: u135 :: u136 :: u137 :: u138 :: u139 :: u140 :: u141 :: u142 :: u143 :: u144 :: u145 :: u146 :: u147 :: u148 :: u149 :: u150 :: u151 :: u152 :: u153 :: u154 :: u155 :: u156 :: u157 :: u158 :: u159 :: u160 :: u161 :: u162 :: u163 :: u164 :: u165 :: u166 :: u167 :: u168 :: u169 :: u170 :: u171 :: u172 :: u173 :: u174 :: u175 :: u176 :: u177 :: u178 :: u179 :: u180 :: u181 :: u182 :: u183 :: u184 :: u185 :: u186 :: u187 :: u188 :: u189 :: u190 :: u191 :: u192 :: u193 :: u194 :: u195 :: u196 :: u197 :: u198 :: u199 :: u200 :: u201 :: u202 :: u203 :: u204 :: u205 :: u206 :: u207 :: u208 :: u209 :: u210 :: u211 :: u212 :: u213 :: u214 :: u215 :: u216 :: u217 :: u218 :: u219 :: []).toArray, []⟩ W) :
  code20.wp Try.prog Q ⟨(u0 :: u1 :: u2 :: u3 :: u4 :: Value.int .i64 (n : Nat) :: u6 :: u7 :: Value.pointer (some ⟨ge, 0, none⟩) :: Value.pointer (some ⟨gt, 0, none⟩) :: u10 :: u11 :: u12 :: u13 :: u14 :: u15 :: u16 :: u17 :: u18 :: u19 :: u20 :: u21 :: u22 :: u23 :: u24 :: u25 :: u26 :: u27 :: u28 :: u29 :: u30 :: u31 :: u32 :: u33 :: u34 :: u35 :: u36 :: u37 :: u38 :: u39 :: u40 :: u41 :: u42 :: u43 :: u44 :: u45 :: u46 :: u47 :: u48 :: u49 :: u50 :: u51 :: u52 :: u53 :: u54 :: u55 :: u56 :: u57 :: u58 :: u59 :: u60 :: u61 :: u62 :: u63 :: u64 :: u65 :: u66 :: u67 :: u68 :: u69 :: u70 :: u71 :: u72 :: u73 :: u74 :: u75 :: u76 :: u77 :: u78 :: u79 :: u80 :: u81 :: u82 :: u83 :: u84 :: u85 :: u86 :: u87 :: u88 :: u89 :: u90 :: u91 :: u92 :: u93 :: u94 :: u95 :: u96 :: u97 :: u98 :: u99 :: u100 :: u101 :: u102 :: u103 :: u104 :: u105 :: u106 :: u107 :: u108 :: u109 :: u110 :: u111 :: u112 :: u113 :: u114 :: u115 :: u116 :: u117 :: u118 :: u119 :: u120 :: u121 :: u122 :: u123 :: u124 :: u125 :: u126 :: u127 :: u128 :: u129 :: u130 :: u131 :: u132 :: u133 :: u134 :: u135 :: u136 :: u137 :: u138 :: u139 :: u140 :: u141 :: u142 :: u143 :: u144 :: u145 :: u146 :: u147 :: u148 :: u149 :: u150 :: u151 :: u152 :: u153 :: u154 :: u155 :: u156 :: u157 :: u158 :: u159 :: u160 :: u161 :: u162 :: u163 :: u164 :: u165 :: u166 :: u167 :: u168 :: u169 :: u170 :: u171 :: u172 :: u173 :: u174 :: u175 :: u176 :: u177 :: u178 :: u179 :: u180 :: u181 :: u182 :: u183 :: u184 :: u185 :: u186 :: u187 :: u188 :: u189 :: u190 :: u191 :: u192 :: u193 :: u194 :: u195 :: u196 :: u197 :: u198 :: u199 :: u200 :: u201 :: u202 :: u203 :: u204 :: u205 :: u206 :: u207 :: u208 :: u209 :: u210 :: u211 :: u212 :: u213 :: u214 :: u215 :: u216 :: u217 :: u218 :: u219 :: []).toArray, []⟩ wq := by
 obtain ⟨iI, ji, jz0, jz1, jz2⟩ := info_parts Try.infoInt
 have JF := Lib.hid ji
 have JZ0 := Lib.hid jz0
 have JZ1 := Lib.hid jz1
 have JZ2 := Lib.hid jz2
 clear ji jz0 jz1 jz2
 conv => arg 2; whnf
 refine wp_region_held_drew (S := fun _ => True) mixedA trivial (fun hHeld => ?_)
 have HA0 := Lib.hid (HR2b.out.ext ((Ext.refl wq).drew))
 have HE0' : Hid (Ext wR wq.drew) := HE2b.out.drew
 refine wpAnyH_take (i := 0) (v := ?v208) rfl (by kernel_rfl) (by kernel_rfl) (by kernel_rfl) (fun _ _ _ h => hP _ _ _ _ (by rfl) h) (Or.inl ⟨?w208, ?y208⟩) hHeld ?r208
 case w208 => rfl
 case y208 => (intro w hSw; go_simp; try with_reducible rfl)
 simp only [rtPr, Act.put]
 refine wpAnyH_take (i := 2) (v := ?v209) rfl (by kernel_rfl) (by kernel_rfl) (by kernel_rfl) (fun _ _ _ h => hP _ _ _ _ (by rfl) h) (Or.inl ⟨?w209, ?y209⟩) hHeld ?r209
 case w209 => rfl
 case y209 => (intro w hSw; go_simp; try with_reducible rfl)
 simp only [rtPr, Act.put]
 refine wpAnyH_take (i := 3) (v := ?v210) rfl (by kernel_rfl) (by kernel_rfl) (by kernel_rfl) (fun _ _ _ h => hP _ _ _ _ (by rfl) h) (Or.inl ⟨?w210, ?y210⟩) hHeld ?r210
 case w210 => rfl
 case y210 => (intro w hSw; go_simp; try with_reducible rfl)
 simp only [rtPr, Act.put]
 refine wpAnyH_ready (rs := [1, 4]) (by kernel_rfl) (by simp) ?_
 refine AllReadyH.cons rfl (fun K hK => ?_) ?_
 ·have hcl : wq.drew.cell? ⟨gt, 2, none⟩ = some (.slice (some ⟨g11, 0, none⟩) 1 1) := HA0.out.tk.cell (k := 2) rfl
  go_simp
  clear hcl
  refine hK.out _ _ trivial (fun hHeld => ?_)
  clear hK K
  try simp only [rtPr, Act.put]
  refine wpAnyH_ready (rs := [4]) (by kernel_rfl) (by simp) ?_
  refine AllReadyH.cons rfl (fun K hK => ?_) ?_
  ·go_simp
   go_at_call 80
   refine (drawE_calls (n : Int) HA0.out.dr (by omega) (by omega)).mono ?_
   rintro e wd2 ⟨xq, rfl, hq0, hq1, hdq, hgq⟩
   have HA2 := Lib.hid (HA0.out.drawn hdq hgq)
   have HE2' : Hid (Ext wR wd2) := HA0.out.drawnExt HE0'.out hgq
   clear hdq hgq
   go_simp
   refine hK.out _ _ trivial (fun hHeld => ?_)
   clear hK K
   try simp only [rtPr, Act.put]
   refine wpAnyH_ready (rs := [5]) (by kernel_rfl) (by simp) ?_
   refine AllReadyH.cons rfl (fun K hK => ?_) ?_
   ·go_simp
    refine hK.out _ _ trivial (fun hHeld => ?_)
    clear hK K
    try simp only [rtPr, Act.put]
    refine wpAnyH_ready (rs := [6]) (by kernel_rfl) (by simp) ?_
    refine AllReadyH.cons rfl (fun K hK => ?_) ?_
    ·have hct : wd2.cell? ⟨gt, 2, none⟩ = some (.slice (some ⟨g11, 0, none⟩) 1 1) := HA2.out.tk.cell (k := 2) rfl
     have hft : wd2.frozen? ⟨gt, 2, none⟩ = false := HA2.out.tk.frozen 2
     skip
     refine step_append_lies (P := Try.prog) _ (by rfl) _ _ 24 (by rfl) wR.heap.size 3 iI (.int .i64 0) 1 8 Try.underlying24 JF.out JZ0.out JZ1.out JZ2.out rfl (by decide) (.slice (some ⟨g11, 0, none⟩) 1 1) [x2].length _ (by rfl) (World.ownsRow.alloc HA2.out.o2 _) ⟨wd2.heap.size, 0, none⟩ 1 1 [.int .i64 xq] (by rfl) rfl (cell_one_new _ _ _) (by simp [Value.oneCell']) (by decide) (by unfold maxLen; simp) (by simp) (Nat.le_trans HE2'.out.size (by simp)) (wd2.heap.size + 1) (by simp) ?_
     intro gq cq w9 hown hg hv _
     obtain ⟨hr9, hb9⟩ := HA2.out.add2 ⟨hq0, hq1⟩ hown hg (by rcases hv with hv | hv; exact .inl hv.symm; exact .inr (congrArg some hv))
     have hc9 : w9.cell? ⟨gt, 2, none⟩ = some (.slice (some ⟨g11, 0, none⟩) 1 1) := (World.cell?_of_block (a := ⟨gt, 2, none⟩) (hg.block gt (by have := lt_of_some HA2.out.tk; simp; omega) (fun e => own_blk_ne HA2.out.o2 HA2.out.tk (by decide) e.symm))).trans ((World.cell?_of_block (a := ⟨gt, 2, none⟩) (Below.heap_alloc _ _ _ (lt_of_some HA2.out.tk))).trans hct)
     have hf9 : w9.frozen? ⟨gt, 2, none⟩ = false := (World.frozen?_of_block (a := ⟨gt, 2, none⟩) (hg.block gt (by have := lt_of_some HA2.out.tk; simp; omega) (fun e => own_blk_ne HA2.out.o2 HA2.out.tk (by decide) e.symm))).trans ((World.frozen?_of_block (a := ⟨gt, 2, none⟩) (Below.heap_alloc _ _ _ (lt_of_some HA2.out.tk))).trans hft)
     have HR9 := Lib.hid hr9
     have HB9 : Hid (Ext wR _) := Below.trans HE2'.out hb9
     clear hr9 hb9 hown hg hv hct hft
     refine hK.out _ _ trivial (fun hHeld => ?_)
     clear hK K
     try simp only [rtPr, Act.put]
     refine wpAnyH_ready (rs := [7]) (by kernel_rfl) (by simp) ?_
     refine AllReadyH.cons rfl (fun K hK => ?_) ?_
     ·go_simp
      refine hK.out _ _ trivial (fun hHeld => ?_)
      clear hK K
      try simp only [rtPr, Act.put]
      refine wpAnyH_ready (rs := [8]) (by kernel_rfl) (by simp) ?_
      refine AllReadyH.cons rfl (fun K hK => ?_) ?_
      ·go_simp
       refine hK.out _ _ trivial (fun hHeld => ?_)
       clear hK K
       try simp only [rtPr, Act.put]
       refine wpAnyH_done (by kernel_rfl) ?_ _
       exact hQ _ _ _ ⟨HR9.out, HB9.out, by simp⟩ _ _ _ _ _ _ _ _
      exact AllReadyH.nil
     exact AllReadyH.nil
    exact AllReadyH.nil
   exact AllReadyH.nil
  exact AllReadyH.nil
 refine AllReadyH.cons rfl (fun K hK => ?_) ?_
 ·go_simp
  go_at_call 80
  refine (drawE_calls (n : Int) HA0.out.dr (by omega) (by omega)).mono ?_
  rintro e wd7 ⟨xq, rfl, hq0, hq1, hdq, hgq⟩
  have HA7 := Lib.hid (HA0.out.drawn hdq hgq)
  have HE7' : Hid (Ext wR wd7) := HA0.out.drawnExt HE0'.out hgq
  clear hdq hgq
  go_simp
  refine hK.out _ _ trivial (fun hHeld => ?_)
  clear hK K
  try simp only [rtPr, Act.put]
  refine wpAnyH_ready (rs := [1, 5]) (by kernel_rfl) (by simp) ?_
  refine AllReadyH.cons rfl (fun K hK => ?_) ?_
  ·have hcl : wd7.cell? ⟨gt, 2, none⟩ = some (.slice (some ⟨g11, 0, none⟩) 1 1) := HA7.out.tk.cell (k := 2) rfl
   go_simp
   clear hcl
   refine hK.out _ _ trivial (fun hHeld => ?_)
   clear hK K
   try simp only [rtPr, Act.put]
   refine wpAnyH_ready (rs := [5]) (by kernel_rfl) (by simp) ?_
   refine AllReadyH.cons rfl (fun K hK => ?_) ?_
   ·go_simp
    refine hK.out _ _ trivial (fun hHeld => ?_)
    clear hK K
    try simp only [rtPr, Act.put]
    refine wpAnyH_ready (rs := [6]) (by kernel_rfl) (by simp) ?_
    refine AllReadyH.cons rfl (fun K hK => ?_) ?_
    ·have hct : wd7.cell? ⟨gt, 2, none⟩ = some (.slice (some ⟨g11, 0, none⟩) 1 1) := HA7.out.tk.cell (k := 2) rfl
     have hft : wd7.frozen? ⟨gt, 2, none⟩ = false := HA7.out.tk.frozen 2
     skip
     refine step_append_lies (P := Try.prog) _ (by rfl) _ _ 24 (by rfl) wR.heap.size 3 iI (.int .i64 0) 1 8 Try.underlying24 JF.out JZ0.out JZ1.out JZ2.out rfl (by decide) (.slice (some ⟨g11, 0, none⟩) 1 1) [x2].length _ (by rfl) (World.ownsRow.alloc HA7.out.o2 _) ⟨wd7.heap.size, 0, none⟩ 1 1 [.int .i64 xq] (by rfl) rfl (cell_one_new _ _ _) (by simp [Value.oneCell']) (by decide) (by unfold maxLen; simp) (by simp) (Nat.le_trans HE7'.out.size (by simp)) (wd7.heap.size + 1) (by simp) ?_
     intro gq cq w9 hown hg hv _
     obtain ⟨hr9, hb9⟩ := HA7.out.add2 ⟨hq0, hq1⟩ hown hg (by rcases hv with hv | hv; exact .inl hv.symm; exact .inr (congrArg some hv))
     have hc9 : w9.cell? ⟨gt, 2, none⟩ = some (.slice (some ⟨g11, 0, none⟩) 1 1) := (World.cell?_of_block (a := ⟨gt, 2, none⟩) (hg.block gt (by have := lt_of_some HA7.out.tk; simp; omega) (fun e => own_blk_ne HA7.out.o2 HA7.out.tk (by decide) e.symm))).trans ((World.cell?_of_block (a := ⟨gt, 2, none⟩) (Below.heap_alloc _ _ _ (lt_of_some HA7.out.tk))).trans hct)
     have hf9 : w9.frozen? ⟨gt, 2, none⟩ = false := (World.frozen?_of_block (a := ⟨gt, 2, none⟩) (hg.block gt (by have := lt_of_some HA7.out.tk; simp; omega) (fun e => own_blk_ne HA7.out.o2 HA7.out.tk (by decide) e.symm))).trans ((World.frozen?_of_block (a := ⟨gt, 2, none⟩) (Below.heap_alloc _ _ _ (lt_of_some HA7.out.tk))).trans hft)
     have HR9 := Lib.hid hr9
     have HB9 : Hid (Ext wR _) := Below.trans HE7'.out hb9
     clear hr9 hb9 hown hg hv hct hft
     refine hK.out _ _ trivial (fun hHeld => ?_)
     clear hK K
     try simp only [rtPr, Act.put]
     refine wpAnyH_ready (rs := [7]) (by kernel_rfl) (by simp) ?_
     refine AllReadyH.cons rfl (fun K hK => ?_) ?_
     ·go_simp
      refine hK.out _ _ trivial (fun hHeld => ?_)
      clear hK K
      try simp only [rtPr, Act.put]
      refine wpAnyH_ready (rs := [8]) (by kernel_rfl) (by simp) ?_
      refine AllReadyH.cons rfl (fun K hK => ?_) ?_
      ·go_simp
       refine hK.out _ _ trivial (fun hHeld => ?_)
       clear hK K
       try simp only [rtPr, Act.put]
       refine wpAnyH_done (by kernel_rfl) ?_ _
       exact hQ _ _ _ ⟨HR9.out, HB9.out, by simp⟩ _ _ _ _ _ _ _ _
      exact AllReadyH.nil
     exact AllReadyH.nil
    exact AllReadyH.nil
   exact AllReadyH.nil
  refine AllReadyH.cons rfl (fun K hK => ?_) ?_
  ·go_simp
   refine hK.out _ _ trivial (fun hHeld => ?_)
   clear hK K
   try simp only [rtPr, Act.put]
   refine wpAnyH_ready (rs := [1]) (by kernel_rfl) (by simp) ?_
   refine AllReadyH.cons rfl (fun K hK => ?_) ?_
   ·have hcl : (wd7.alloc (.cells #[.int .i64 xq] 3)).cell? ⟨gt, 2, none⟩ = some (.slice (some ⟨g11, 0, none⟩) 1 1) := (HA7.out.ext ((Ext.refl _).alloc (.cells #[.int .i64 xq] 3))).tk.cell (k := 2) rfl
    go_simp
    clear hcl
    refine hK.out _ _ trivial (fun hHeld => ?_)
    clear hK K
    try simp only [rtPr, Act.put]
    refine wpAnyH_ready (rs := [6]) (by kernel_rfl) (by simp) ?_
    refine AllReadyH.cons rfl (fun K hK => ?_) ?_
    ·have hct : wd7.cell? ⟨gt, 2, none⟩ = some (.slice (some ⟨g11, 0, none⟩) 1 1) := HA7.out.tk.cell (k := 2) rfl
     have hft : wd7.frozen? ⟨gt, 2, none⟩ = false := HA7.out.tk.frozen 2
     skip
     refine step_append_lies (P := Try.prog) _ (by rfl) _ _ 24 (by rfl) wR.heap.size 3 iI (.int .i64 0) 1 8 Try.underlying24 JF.out JZ0.out JZ1.out JZ2.out rfl (by decide) (.slice (some ⟨g11, 0, none⟩) 1 1) [x2].length _ (by rfl) (World.ownsRow.alloc HA7.out.o2 _) ⟨wd7.heap.size, 0, none⟩ 1 1 [.int .i64 xq] (by rfl) rfl (cell_one_new _ _ _) (by simp [Value.oneCell']) (by decide) (by unfold maxLen; simp) (by simp) (Nat.le_trans HE7'.out.size (by simp)) (wd7.heap.size + 1) (by simp) ?_
     intro gq cq w9 hown hg hv _
     obtain ⟨hr9, hb9⟩ := HA7.out.add2 ⟨hq0, hq1⟩ hown hg (by rcases hv with hv | hv; exact .inl hv.symm; exact .inr (congrArg some hv))
     have hc9 : w9.cell? ⟨gt, 2, none⟩ = some (.slice (some ⟨g11, 0, none⟩) 1 1) := (World.cell?_of_block (a := ⟨gt, 2, none⟩) (hg.block gt (by have := lt_of_some HA7.out.tk; simp; omega) (fun e => own_blk_ne HA7.out.o2 HA7.out.tk (by decide) e.symm))).trans ((World.cell?_of_block (a := ⟨gt, 2, none⟩) (Below.heap_alloc _ _ _ (lt_of_some HA7.out.tk))).trans hct)
     have hf9 : w9.frozen? ⟨gt, 2, none⟩ = false := (World.frozen?_of_block (a := ⟨gt, 2, none⟩) (hg.block gt (by have := lt_of_some HA7.out.tk; simp; omega) (fun e => own_blk_ne HA7.out.o2 HA7.out.tk (by decide) e.symm))).trans ((World.frozen?_of_block (a := ⟨gt, 2, none⟩) (Below.heap_alloc _ _ _ (lt_of_some HA7.out.tk))).trans hft)
     have HR9 := Lib.hid hr9
     have HB9 : Hid (Ext wR _) := Below.trans HE7'.out hb9
     clear hr9 hb9 hown hg hv hct hft
     refine hK.out _ _ trivial (fun hHeld => ?_)
     clear hK K
     try simp only [rtPr, Act.put]
     refine wpAnyH_ready (rs := [7]) (by kernel_rfl) (by simp) ?_
     refine AllReadyH.cons rfl (fun K hK => ?_) ?_
     ·go_simp
      refine hK.out _ _ trivial (fun hHeld => ?_)
      clear hK K
      try simp only [rtPr, Act.put]
      refine wpAnyH_ready (rs := [8]) (by kernel_rfl) (by simp) ?_
      refine AllReadyH.cons rfl (fun K hK => ?_) ?_
      ·go_simp
       refine hK.out _ _ trivial (fun hHeld => ?_)
       clear hK K
       try simp only [rtPr, Act.put]
       refine wpAnyH_done (by kernel_rfl) ?_ _
       exact hQ _ _ _ ⟨HR9.out, HB9.out, by simp⟩ _ _ _ _ _ _ _ _
      exact AllReadyH.nil
     exact AllReadyH.nil
    exact AllReadyH.nil
   exact AllReadyH.nil
  exact AllReadyH.nil
 exact AllReadyH.nil
end Go.Proofs.Ytgpjfpcjiebjiaa
