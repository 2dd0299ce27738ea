import Derived.Test.YtjomnbdjajjgfaaGreatDoorWKl
import Derived.Deep.CutBlock
set_option linter.unusedVariables false
set_option linter.unusedSimpArgs false
set_option maxRecDepth 100000
set_option maxHeartbeats 16000000
namespace Go.Proofs.YtjomnbdjajjgfaaGreatDoor
variable {pp:List (List Int)} {m:MZ} {t:Nat} {ok okp:Nat->Prop} {v vp:Value}
section
open Go.RowKit
attribute [local go_sem ↓] Go.wp_at_zero Go.wp_at_succ
def blkOf (n:Nat):Code->Option Code
 | .block id c=>if id=n then some (.block id c) else blkOf n c
 | .seq a b=>match blkOf n a with
  | some c=>some c
  | none=>blkOf n b
 | .cond _ a b=>match blkOf n a with
  | some c=>some c
  | none=>blkOf n b
 | .loop c=>blkOf n c
 | _=>none
noncomputable def oddB:Code:=(Tryz.f21.body.bind (blkOf 0)).getD .skip
theorem sw_wp {w1 W:World} {Q:Exit->Act->World->Prop} {g cS cK c:Nat} {AS AK:Option Addr} {t k d:Int} {s:List Int} {ks:List PT} {cs:List Value} {u0 u1 u2 u3 u4 u7 u8 u9 u10 u11 u12 u13 u14 u15 u16 u17 u18 u19 u20 u21 u22 u23 u24 u25 u26 u27 u28 u29 u30 u31 u32 u33 u34 u35 u36 u37 u38 u39 u40 u41 u42 u43 u44 u45 u46 u47 u48 u49 u50 u51 u52 u53 u54 u55 u56 u57 u58 u59 u60 u62 u63 u64 u65 u66 u67 u68 u69 u70 u71 u72 u73 u74 u75 u76 u77 u78 u79 u80 u81 u82 u83 u84 u85 u86 u87 u88 u89 u90 u91 u92 u93 u94 u95 u96 u97 u98 u99 u100 u101 u102 u103 u104 u105 u106 u107 u108 u109 u110 u111 u112 u113 u114 u115 u116 u117 u118 u119 u120 u121 u122 u123 u124 u125 u126 u127 u128 u129 u130 u131 u132 u133 u134 u135 u136 u137 u138 u139 u140 u141 u142 u143 u144 u145 u146 u147 u148 u149 u150 u151 u152 u153 u154 u155 u156 u157 u158 u159 u160 u161 u162 u163:Value}
  (b4:d=0\/d=1\/d=2\/d=3\/d=4\/d=5\/d=6\/d=7) (a0:0<=k) (a1:k<60) (a9:s.length<=1000000000000) (d6:ks.length<=1000000000000)
  (hq:OQ w1 W ok g t s ks cs (.slice AS s.length cS) (.slice AK ks.length cK)) (hl:(PT.node t s ks).LenN c)
  (hP:∀c (a a':Act) w,a.defers=a'.defers->Q (.panic c) a w->Q (.panic c) a' w)
  (hQ:∀(W':World),OZ w1 W' ok g c (.node t s ks)->∀(x62 x63 x64 x65 x66 x67 x68 x69 x70 x71 x72 x73 x74 x75 x76 x77 x78 x79 x80 x81 x82 x83 x84 x85 x86 x87 x88 x89 x90 x91 x92 x93 x94 x95 x96 x97 x98 x99 x100 x101 x102 x103 x104 x105 x106 x107 x108 x109 x110 x111 x112 x113 x114 x115 x116 x117 x118 x119 x120 x121 x122 x123 x124 x125 x126 x127 x128 x129 x130 x131 x132 x133 x134 x135 x136 x137 x138 x139 x140 x141 x142 x143 x144 x145 x146 x147 x148 x149 x150 x151 x152 x153 x154 x155 x156 x157 x158 x159 x160 x161 x162:Value),Q .normal ⟨(u0 :: u1 :: u2 :: u3 :: u4 :: Value.pointer (some ⟨g,0,none⟩) :: Value.int .i64 k :: u7 :: u8 :: u9 :: u10 :: u11 :: u12 :: u13 :: u14 :: u15 :: u16 :: u17 :: u18 :: u19 :: u20 :: u21 :: u22 :: u23 :: u24 :: u25 :: u26 :: u27 :: u28 :: u29 :: u30 :: u31 :: u32 :: u33 :: u34 :: u35 :: u36 :: u37 :: u38 :: u39 :: u40 :: u41 :: u42 :: u43 :: u44 :: u45 :: u46 :: u47 :: u48 :: u49 :: u50 :: u51 :: u52 :: u53 :: u54 :: u55 :: u56 :: u57 :: u58 :: u59 :: u60 :: Value.int .i64 d :: x62 :: x63 :: x64 :: x65 :: x66 :: x67 :: x68 :: x69 :: x70 :: x71 :: x72 :: x73 :: x74 :: x75 :: x76 :: x77 :: x78 :: x79 :: x80 :: x81 :: x82 :: x83 :: x84 :: x85 :: x86 :: x87 :: x88 :: x89 :: x90 :: x91 :: x92 :: x93 :: x94 :: x95 :: x96 :: x97 :: x98 :: x99 :: x100 :: x101 :: x102 :: x103 :: x104 :: x105 :: x106 :: x107 :: x108 :: x109 :: x110 :: x111 :: x112 :: x113 :: x114 :: x115 :: x116 :: x117 :: x118 :: x119 :: x120 :: x121 :: x122 :: x123 :: x124 :: x125 :: x126 :: x127 :: x128 :: x129 :: x130 :: x131 :: x132 :: x133 :: x134 :: x135 :: x136 :: x137 :: x138 :: x139 :: x140 :: x141 :: x142 :: x143 :: x144 :: x145 :: x146 :: x147 :: x148 :: x149 :: x150 :: x151 :: x152 :: x153 :: x154 :: x155 :: x156 :: x157 :: x158 :: x159 :: x160 :: x161 :: x162 :: u163 :: []).toArray,[]⟩ W'):
  oddB.wp Tryz.prog Q ⟨(u0 :: u1 :: u2 :: u3 :: u4 :: Value.pointer (some ⟨g,0,none⟩) :: Value.int .i64 k :: u7 :: u8 :: u9 :: u10 :: u11 :: u12 :: u13 :: u14 :: u15 :: u16 :: u17 :: u18 :: u19 :: u20 :: u21 :: u22 :: u23 :: u24 :: u25 :: u26 :: u27 :: u28 :: u29 :: u30 :: u31 :: u32 :: u33 :: u34 :: u35 :: u36 :: u37 :: u38 :: u39 :: u40 :: u41 :: u42 :: u43 :: u44 :: u45 :: u46 :: u47 :: u48 :: u49 :: u50 :: u51 :: u52 :: u53 :: u54 :: u55 :: u56 :: u57 :: u58 :: u59 :: u60 :: Value.int .i64 d :: u62 :: u63 :: u64 :: u65 :: u66 :: u67 :: u68 :: u69 :: u70 :: u71 :: u72 :: u73 :: u74 :: u75 :: u76 :: u77 :: u78 :: u79 :: u80 :: u81 :: u82 :: u83 :: u84 :: u85 :: u86 :: u87 :: u88 :: u89 :: u90 :: u91 :: u92 :: u93 :: u94 :: u95 :: u96 :: u97 :: u98 :: u99 :: u100 :: u101 :: u102 :: u103 :: u104 :: u105 :: u106 :: u107 :: u108 :: u109 :: u110 :: u111 :: u112 :: u113 :: u114 :: u115 :: u116 :: u117 :: u118 :: u119 :: u120 :: u121 :: u122 :: u123 :: u124 :: u125 :: u126 :: u127 :: u128 :: u129 :: u130 :: u131 :: u132 :: u133 :: u134 :: u135 :: u136 :: u137 :: u138 :: u139 :: u140 :: u141 :: u142 :: u143 :: u144 :: u145 :: u146 :: u147 :: u148 :: u149 :: u150 :: u151 :: u152 :: u153 :: u154 :: u155 :: u156 :: u157 :: u158 :: u159 :: u160 :: u161 :: u162 :: u163 :: []).toArray,[]⟩ W:=by
 conv=>arg 2;whnf
 have B:=zh hq;have V:=zh hl;have hx:za w1 W:=hq.ext;have m0:W.cell? ⟨g,0,none⟩=some (.int .i64 t):=B.out.box.cell (k:=0) rfl;have m1:W.cell? ⟨g,1,none⟩=some (.slice AS s.length cS):=B.out.box.cell (k:=1) rfl;have m2:W.cell? ⟨g,2,none⟩=some (.slice AK ks.length cK):=B.out.box.cell (k:=2) rfl;have mf:∀j,W.frozen? ⟨g,j,none⟩=false:=fun j=>B.out.box.frozen j
 have D:=zh hQ;have E:=zh hP;clear hq hl hQ hP;rcases b4 with rfl | rfl | rfl | rfl | rfl | rfl | rfl | rfl
 ·obtain ⟨r3,c0,-,J,L⟩:=rem29 (n:=3) (by decide) a0 a1;have J:k.tmod 3=(r3:Int):=J;have L:IntKind.i64.wrap (k.tmod 3)=(r3:Int):=L;obtain ⟨T1,d9⟩:∃T1,IntKind.i64.wrap (t+(r3:Int))=T1:=⟨_,rfl⟩;obtain ⟨T2,e0⟩:∃T2,IntKind.i64.wrap (T1 - 1)=T2:=⟨_,rfl⟩;have o:=B.out.finT V.out T2
  go_wp2_with fail
  exact D.out _ o _ _ _ _ _ _ _ _ _ _ _ _ _ _ _ _ _ _ _ _ _ _ _ _ _ _ _ _ _ _ _ _ _ _ _ _ _ _ _ _ _ _ _ _ _ _ _ _ _ _ _ _ _ _ _ _ _ _ _ _ _ _ _ _ _ _ _ _ _ _ _ _ _ _ _ _ _ _ _ _ _ _ _ _ _ _ _ _ _ _ _ _ _ _ _ _ _ _ _ _ _
 ·rcases EC s.length with hz | hz
  ·have O:decide ((0:Int)<(s.length:Int))=false:=DV (by omega);have U:decide (0<s.length)=false:=DV (by omega);clear hz;have o:=B.out.same V.out
   go_wp2_with fail
   exact D.out _ o _ _ _ _ _ _ _ _ _ _ _ _ _ _ _ _ _ _ _ _ _ _ _ _ _ _ _ _ _ _ _ _ _ _ _ _ _ _ _ _ _ _ _ _ _ _ _ _ _ _ _ _ _ _ _ _ _ _ _ _ _ _ _ _ _ _ _ _ _ _ _ _ _ _ _ _ _ _ _ _ _ _ _ _ _ _ _ _ _ _ _ _ _ _ _ _ _ _ _ _ _
  ·have O:decide ((0:Int)<(s.length:Int))=true:=DU (by omega);have U:decide (0<s.length)=true:=DU hz;obtain ⟨i,hi,b7,a7,a8⟩:=rem29 hz a0 a1;obtain ⟨gS,cS',e,b6,-⟩:=World.ownsRow.form B.out.side hz;injection e with e1 e2 e3;subst e1 e3;clear e2;go_upto_region 11 with fail;go_upto_region 12 with fail;have b1:Hid (W.cell? ⟨g,1,none⟩=some (.slice (some ⟨gS,0,none⟩) s.length cS)):=m1;refine Dr (c':=odd12) (by kernel_rfl) ?_;refine r12_wp B.out V.out m1 hz hi a7 a8 a9 (fun c a a' w hd h=>E.out c a a' w hd h) fun wz o _ _ _ _ _ _ _ _ _ _ _ _ _ _ _ _ _ _ _=>?_;clear b1
   go_wp2_with fail
   exact D.out _ o _ _ _ _ _ _ _ _ _ _ _ _ _ _ _ _ _ _ _ _ _ _ _ _ _ _ _ _ _ _ _ _ _ _ _ _ _ _ _ _ _ _ _ _ _ _ _ _ _ _ _ _ _ _ _ _ _ _ _ _ _ _ _ _ _ _ _ _ _ _ _ _ _ _ _ _ _ _ _ _ _ _ _ _ _ _ _ _ _ _ _ _ _ _ _ _ _ _ _ _ _
 ·go_wp2_with (at_builtin;refine By (ok:=fun _=>True) rfl _ _ _ eInt rfl w1.heap.size s.length 1 (s.map (Value.int .i64)) [.int .i64 k] _ _ rfl rfl (Ag B.out.side ((za.refl W).alloc _)) ⟨_,_,rfl,DR _,AE.block (zd.new _ _ _ rfl) trivial rfl⟩ (by simp [Value.oneCell']) (DT (Below.size hx) (by simp)) (by unfold maxLen;omega) (by omega) ?_)
  intro v9 w9 ho hg a2;have G:=B.out.ex ((za.refl W).alloc (.cells #[.int .i64 k] 3))
  have hO:zB w9 w1.heap.size v9 (s++[k]):=by
   unfold zB;rw [DZ,EI];exact ho
  have M:=(G.grown hg G.side_ne).2.1;have y1:=M.cell (k:=1) rfl;have yf:∀j,w9.frozen? ⟨g,j,none⟩=false:=fun j=>M.frozen j
  have o:=G.finS V.out (fun b hb=>hb) hg hO (by simp);obtain ⟨A9,c9,rfl,-⟩:=Ae.of_own ho;clear G hO M ho hg a2 m0 m1 m2 mf
  go_wp2_with fail
  exact D.out _ o _ _ _ _ _ _ _ _ _ _ _ _ _ _ _ _ _ _ _ _ _ _ _ _ _ _ _ _ _ _ _ _ _ _ _ _ _ _ _ _ _ _ _ _ _ _ _ _ _ _ _ _ _ _ _ _ _ _ _ _ _ _ _ _ _ _ _ _ _ _ _ _ _ _ _ _ _ _ _ _ _ _ _ _ _ _ _ _ _ _ _ _ _ _ _ _ _ _ _ _ _
 ·rcases EC s.length with hz | hz
  ·have O:decide ((0:Int)<(s.length:Int))=false:=DV (by omega);have U:decide (0<s.length)=false:=DV (by omega);clear hz;have o:=B.out.same V.out
   go_wp2_with fail
   exact D.out _ o _ _ _ _ _ _ _ _ _ _ _ _ _ _ _ _ _ _ _ _ _ _ _ _ _ _ _ _ _ _ _ _ _ _ _ _ _ _ _ _ _ _ _ _ _ _ _ _ _ _ _ _ _ _ _ _ _ _ _ _ _ _ _ _ _ _ _ _ _ _ _ _ _ _ _ _ _ _ _ _ _ _ _ _ _ _ _ _ _ _ _ _ _ _ _ _ _ _ _ _ _
  ·have O:decide ((0:Int)<(s.length:Int))=true:=DU (by omega);have U:decide (0<s.length)=true:=DU hz;obtain ⟨i,hi,b7,a7,a8⟩:=rem29 hz a0 a1;obtain ⟨gS,cS',e,b6,-⟩:=World.ownsRow.form B.out.side hz;injection e with e1 e2 e3;subst e1 e3;clear e2;have f1:s≠[]:=fun e=>by rw [e] at hz;simp at hz
   have e7:IntKind.i64.wrap (k - 2)=k - 2:=by rw [Em];omega
   have e6:(i:Int)<(s.length:Int):=by omega
   have e5:(0:Int)<=(i:Int):=by omega
   go_upto_region 17 with fail;refine Eh (S:=(fun W=>W.cell? ⟨g,1,none⟩=some (.slice (some ⟨gS,0,none⟩) s.length cS))) zI (m1) fun zH=>?_;obtain ⟨cb,b2⟩:=own_kind B.out.side gS rfl;have b8:g≠gS:=fun e=>(B.out.side_ne gS rfl).2 e.symm
   refine wpAnyH_take (i:=0) (v:=?v1) rfl (by kernel_rfl) (by kernel_rfl) (by kernel_rfl) (fun _ _ _ h=>E.out _ _ _ _ (by rfl) h) (Or.inl ⟨?w1,?y1⟩) zH ?r1
   case w1=>rfl
   case y1=>(intro w I;go_simp;try with_reducible rfl)
   simp only [zb,DN];refine wpAnyH_take (i:=1) (v:=?v2) rfl (by kernel_rfl) (by kernel_rfl) (by kernel_rfl) (fun _ _ _ h=>E.out _ _ _ _ (by rfl) h) (Or.inl ⟨?w2,?y2⟩) zH ?r2
   case w2=>rfl
   case y2=>(intro w I;go_simp;try with_reducible rfl)
   simp only [zb,DN];refine wpAnyH_take (i:=2) (v:=?v3) rfl (by kernel_rfl) (by kernel_rfl) (by kernel_rfl) (fun _ _ _ h=>E.out _ _ _ _ (by rfl) h) (Or.inl ⟨?w3,?y3⟩) zH ?r3
   case w3=>rfl
   case y3=>(intro w I;go_simp;try with_reducible rfl)
   simp only [zb,DN];refine wpAnyH_take (i:=3) (v:=?v4) rfl (by kernel_rfl) (by kernel_rfl) (by kernel_rfl) (fun _ _ _ h=>E.out _ _ _ _ (by rfl) h) (Or.inl ⟨?w4,?y4⟩) zH ?r4
   case w4=>rfl
   case y4=>(intro w I;go_simp;try with_reducible rfl)
   simp only [zb,DN];refine wpAnyH_take (i:=4) (v:=?v5) rfl (by kernel_rfl) (by kernel_rfl) (by kernel_rfl) (fun _ _ _ h=>E.out _ _ _ _ (by rfl) h) (Or.inl ⟨?w5,?y5⟩) zH ?r5
   case w5=>rfl
   case y5=>(intro w I;go_simp;try with_reducible rfl)
   simp only [zb,DN];refine wpAnyH_take (i:=5) (v:=?v6) rfl (by kernel_rfl) (by kernel_rfl) (by kernel_rfl) (fun _ _ _ h=>E.out _ _ _ _ (by rfl) h) (Or.inl ⟨?w6,?y6⟩) zH ?r6
   case w6=>rfl
   case y6=>(intro w I;go_simp;try with_reducible rfl)
   simp only [zb,DN];refine wpAnyH_take (i:=6) (v:=?v7) rfl (by kernel_rfl) (by kernel_rfl) (by kernel_rfl) (fun _ _ _ h=>E.out _ _ _ _ (by rfl) h) (Or.inl ⟨?w7,?y7⟩) zH ?r7
   case w7=>rfl
   case y7=>(intro w I;go_simp;try with_reducible rfl)
   simp only [zb,DN];refine wpAnyH_take (i:=7) (v:=?v8) rfl (by kernel_rfl) (by kernel_rfl) (by kernel_rfl) (fun _ _ _ h=>E.out _ _ _ _ (by rfl) h) (Or.inl ⟨?w8,?y8⟩) zH ?r8
   case w8=>rfl
   case y8=>(intro w I;go_simp;try with_reducible rfl)
   simp only [zb,DN];refine wpAnyH_take (i:=8) (v:=?v9) rfl (by kernel_rfl) (by kernel_rfl) (by kernel_rfl) (fun _ _ _ h=>E.out _ _ _ _ (by rfl) h) (Or.inl ⟨?w9,?y9⟩) zH ?r9
   case w9=>rfl
   case y9=>(intro w I;go_simp;try with_reducible rfl)
   simp only [zb,DN];refine wpAnyH_take (i:=9) (v:=?v10) rfl (by kernel_rfl) (by kernel_rfl) (by kernel_rfl) (fun _ _ _ h=>E.out _ _ _ _ (by rfl) h) (Or.inl ⟨?w10,?y10⟩) zH ?r10
   case w10=>rfl
   case y10=>(intro w I;go_simp;try with_reducible rfl)
   simp only [zb,DN]
   have z0:W.drew.cell? ⟨gS,i,none⟩=some (.int .i64 s[i]):=by
    have h:=World.ownsRow.cellAt B.out.side i (by omega);rw [EA,DO hi] at h;exact h
   have zf:W.drew.frozen? ⟨gS,i,none⟩=false:=World.ownsRow.frozenAt B.out.side i;have o:=(B.out.ex (za.refl W).drew).finSe (i:=i) (z:=k - 2) V.out rfl hi;refine AD 10 fun K hK=>?_;go_simp;refine EZ hK ((Eg (a:=⟨g,1,none⟩) (Ea W.drew ⟨gS,i,none⟩ _ g b8)).trans zH) fun zH=>?_;clear hK K z0 zf zH b2;refine Ev (by kernel_rfl) ?_ _;clear m0 m1 m2 mf
   go_wp2_with fail
   exact D.out _ o _ _ _ _ _ _ _ _ _ _ _ _ _ _ _ _ _ _ _ _ _ _ _ _ _ _ _ _ _ _ _ _ _ _ _ _ _ _ _ _ _ _ _ _ _ _ _ _ _ _ _ _ _ _ _ _ _ _ _ _ _ _ _ _ _ _ _ _ _ _ _ _ _ _ _ _ _ _ _ _ _ _ _ _ _ _ _ _ _ _ _ _ _ _ _ _ _ _ _ _ _
 ·obtain ⟨r3,c0,-,J,L⟩:=rem29 (n:=3) (by decide) a0 a1;have J:k.tmod 3=(r3:Int):=J;have L:IntKind.i64.wrap (k.tmod 3)=(r3:Int):=L
  go_wp2_with (at_builtin;refine By (ok:=fun _=>True) rfl _ _ _ CW rfl w1.heap.size ks.length 1 cs [.int .i64 r3,.slice none 0 0,.slice none 0 0] _ _ rfl rfl (Ag B.out.own ((za.refl W).alloc _)) (Cd (zd.new _ _ _ rfl)) (fun u hu=>by simp at hu;rcases hu with rfl | rfl | rfl <;> rfl) (DT (Below.size hx) (by simp)) (by unfold maxLen;omega) (by omega) ?_)
  intro v9 w9 ho hg a2;have G:=B.out.ex ((za.refl W).alloc (.cells #[.int .i64 r3,.slice none 0 0,.slice none 0 0] 41));have M:=(G.grown hg G.kids_ne).2.1;have y2:=M.cell (k:=2) rfl;have yf:∀j,w9.frozen? ⟨g,j,none⟩=false:=fun j=>M.frozen j
  have o:=G.finK V.out hg ho (a2.imp id fun e=>e.trans (by simp));obtain ⟨A9,c9,rfl,-⟩:=Ae.of_own ho;clear G M ho hg a2 m0 m1 m2 mf
  go_wp2_with fail
  exact D.out _ o _ _ _ _ _ _ _ _ _ _ _ _ _ _ _ _ _ _ _ _ _ _ _ _ _ _ _ _ _ _ _ _ _ _ _ _ _ _ _ _ _ _ _ _ _ _ _ _ _ _ _ _ _ _ _ _ _ _ _ _ _ _ _ _ _ _ _ _ _ _ _ _ _ _ _ _ _ _ _ _ _ _ _ _ _ _ _ _ _ _ _ _ _ _ _ _ _ _ _ _ _
 ·rcases EC ks.length with hz | hz
  ·have O:decide ((0:Int)<(ks.length:Int))=false:=DV (by omega);have U:decide (0<ks.length)=false:=DV (by omega);clear hz;have o:=B.out.same V.out
   go_wp2_with fail
   exact D.out _ o _ _ _ _ _ _ _ _ _ _ _ _ _ _ _ _ _ _ _ _ _ _ _ _ _ _ _ _ _ _ _ _ _ _ _ _ _ _ _ _ _ _ _ _ _ _ _ _ _ _ _ _ _ _ _ _ _ _ _ _ _ _ _ _ _ _ _ _ _ _ _ _ _ _ _ _ _ _ _ _ _ _ _ _ _ _ _ _ _ _ _ _ _ _ _ _ _ _ _ _ _
  ·have O:decide ((0:Int)<(ks.length:Int))=true:=DU (by omega);have U:decide (0<ks.length)=true:=DU hz;obtain ⟨gK,cK',e,b5,-⟩:=World.ownsRow.form B.out.own hz;injection e with e1 e2 e3;subst e1 e3;clear e2;have d4:=Bx B.out.own;have e8:(1:Int)<=(ks.length:Int):=by omega
   have G:(1:Int)<=(cK:Int):=by omega
   have e9:(ks.length:Int)<=(cK:Int):=by omega
   have hq4:1<cK\/cK=1:=by omega
   rcases hq4 with hq4 | hq4
   ·have o:=B.out.finD V.out rfl hz
    go_wp2_with fail
    exact D.out _ o _ _ _ _ _ _ _ _ _ _ _ _ _ _ _ _ _ _ _ _ _ _ _ _ _ _ _ _ _ _ _ _ _ _ _ _ _ _ _ _ _ _ _ _ _ _ _ _ _ _ _ _ _ _ _ _ _ _ _ _ _ _ _ _ _ _ _ _ _ _ _ _ _ _ _ _ _ _ _ _ _ _ _ _ _ _ _ _ _ _ _ _ _ _ _ _ _ _ _ _ _
   ·subst hq4;have o:=B.out.finN (A:=some ⟨gK,0,none⟩) (cap:=0) V.out
    go_wp2_with fail
    exact D.out _ o _ _ _ _ _ _ _ _ _ _ _ _ _ _ _ _ _ _ _ _ _ _ _ _ _ _ _ _ _ _ _ _ _ _ _ _ _ _ _ _ _ _ _ _ _ _ _ _ _ _ _ _ _ _ _ _ _ _ _ _ _ _ _ _ _ _ _ _ _ _ _ _ _ _ _ _ _ _ _ _ _ _ _ _ _ _ _ _ _ _ _ _ _ _ _ _ _ _ _ _ _
 ·by_cases hz:1<ks.length
  ·have O:decide ((1:Int)<(ks.length:Int))=true:=DU (by omega);have U:decide (1<ks.length)=true:=DU hz;obtain ⟨gK,cK',e,b5,-⟩:=World.ownsRow.form B.out.own (by omega);injection e with e1 e2 e3;subst e1 e3;clear e2;go_upto_region 24 with fail;go_upto_region 25 with fail;refine Dr (c':=odd25) (by kernel_rfl) ?_;refine r25_wp B.out V.out m2 hz (fun c a a' w hd h=>E.out c a a' w hd h) fun wz o _ _ _ _ _ _ _ _ _ _ _ _ _ _=>?_
   go_wp2_with fail
   exact D.out _ o _ _ _ _ _ _ _ _ _ _ _ _ _ _ _ _ _ _ _ _ _ _ _ _ _ _ _ _ _ _ _ _ _ _ _ _ _ _ _ _ _ _ _ _ _ _ _ _ _ _ _ _ _ _ _ _ _ _ _ _ _ _ _ _ _ _ _ _ _ _ _ _ _ _ _ _ _ _ _ _ _ _ _ _ _ _ _ _ _ _ _ _ _ _ _ _ _ _ _ _ _
  ·have O:decide ((1:Int)<(ks.length:Int))=false:=DV (by omega);have U:decide (1<ks.length)=false:=DV hz;have o:=B.out.same V.out
   go_wp2_with fail
   exact D.out _ o _ _ _ _ _ _ _ _ _ _ _ _ _ _ _ _ _ _ _ _ _ _ _ _ _ _ _ _ _ _ _ _ _ _ _ _ _ _ _ _ _ _ _ _ _ _ _ _ _ _ _ _ _ _ _ _ _ _ _ _ _ _ _ _ _ _ _ _ _ _ _ _ _ _ _ _ _ _ _ _ _ _ _ _ _ _ _ _ _ _ _ _ _ _ _ _ _ _ _ _ _
 ·obtain ⟨r4,f0,-,a3,a4⟩:=rem29 (n:=4) (by decide) a0 a1;have a3:k.tmod 4=(r4:Int):=a3;have a4:IntKind.i64.wrap (k.tmod 4)=(r4:Int):=a4;have o:=B.out.finL (c:=c) (r4:Int)
  go_wp2_with fail
  exact D.out _ o _ _ _ _ _ _ _ _ _ _ _ _ _ _ _ _ _ _ _ _ _ _ _ _ _ _ _ _ _ _ _ _ _ _ _ _ _ _ _ _ _ _ _ _ _ _ _ _ _ _ _ _ _ _ _ _ _ _ _ _ _ _ _ _ _ _ _ _ _ _ _ _ _ _ _ _ _ _ _ _ _ _ _ _ _ _ _ _ _ _ _ _ _ _ _ _ _ _ _ _ _
theorem odd29_calls:∀(N:Nat) (w:World) (ok:Nat->Prop) (v:Value) (p:PT) (c:Nat) (q0 q1 q2:Int),zM w ok v p->p.LenN c->c<=1000000000000->p.size<=N->
  Calls Tryz.prog 21 #[v,.agg #[.int .i64 q0,.int .i64 q1,.int .i64 q2]] w (OddR w ok c p)
 | 0,w,ok,v,.node t s ks,c,q0,q1,q2,h,hL,hc,hN=>by unfold PT.size at hN;omega
 | N+1,w,ok,v,.node t s ks,c,q0,q1,q2,h,hL,hc,hN=>by
  have IH:=zh (odd29_calls N)
  cases h.bound with
  | mk hs Q he=>
   rename_i vs vk cs
   have HS:=zh hs;have HL:=zh hL
   have h8:Hid (∀k∈ks,k.size<=N/\k.LenN c):=fun k Q=>by
    unfold PT.LenN at hL;unfold PT.size at hN;have:=size_mem29 k Q;exact ⟨by omega,lenNL_mem hL.2.2 k Q⟩
   have l0:s.length<=1000000000000/\ks.length<=1000000000000:=by unfold PT.LenN at hL;omega
   obtain ⟨As,cs',rfl,-,-⟩:=hs;obtain ⟨Ak,ck,rfl,i8,g3⟩:=Q;have h4:=zh (show Ae w (fun b=>ok b/\b<w.heap.size) 3 (.slice Ak ks.length ck) ks.length cs from ⟨Ak,ck,rfl,i8,g3⟩);have d4:=zh he;obtain ⟨j1,j2⟩:=l0;have f5:cs.length=ks.length*3:=g3.1;have g6:=zh f5;clear h hL hN g3 he f5
   go_enter Tryz.func21,Tryz.ntmps21
   go_upto_region 1 with fail;refine fin_wp29 w [_,_,_] fun w1 a5 hB=>?_
   have a6:zd w1 w.heap.size 41 #[.int .i64 t,.slice As s.length cs',.slice Ak ks.length ck]:=hB 0 _ rfl;have a7:zd w1 (w.heap.size+1) 24 #[.int .i64 q0,.int .i64 q1,.int .i64 q2]:=hB 1 _ rfl;have b7:zd w1 (w.heap.size+2) 41 #[.int .i64 0,.slice none 0 0,.slice none 0 0]:=hB 2 _ rfl;have b1:=zc b7;obtain ⟨b4,f9⟩:∃b,b=w.heap.size+2:=⟨_,rfl⟩;obtain ⟨b3,f8⟩:∃b,b=w.heap.size+1:=⟨_,rfl⟩;obtain ⟨b2,f7⟩:∃b,b=w.heap.size:=⟨_,rfl⟩;rw [<-f7] at a6;rw [<-f8] at a7;rw [<-f9] at b7 b1;rw [<-f9,<-f8,<-f7];have g7:=zh a5;have d6:Hid (w.heap.size<=b4/\b4<w1.heap.size):=⟨by omega,b1⟩;have HZ:=zh b7;have p0:=za.rule (a6.cell (k:=0) rfl);have p1:=za.rule (a6.cell (k:=1) rfl);have p2:=za.rule (a6.cell (k:=2) rfl);have i0:∀W,za w1 W->W.cell? ⟨b3,0,none⟩=some (.int .i64 q0):=za.rule (a7.cell (k:=0) rfl);have i1:∀W,za w1 W->W.cell? ⟨b3,1,none⟩=some (.int .i64 q1):=za.rule (a7.cell (k:=1) rfl);have i2:∀W,za w1 W->W.cell? ⟨b3,2,none⟩=some (.int .i64 q2):=za.rule (a7.cell (k:=2) rfl);have h5:Hid (zk w1 (fun b=>ok b/\b<w.heap.size) (.slice As s.length cs') s):=HS.out.below a5;have g8:Hid (Ae w1 (fun b=>ok b/\b<w.heap.size) 3 (.slice Ak ks.length ck) ks.length cs):=Ae.below h4.out a5;have g9:Hid (∀(i:Nat) (hi:i<ks.length),zM w1 (fun b=>ok b/\b<w.heap.size) (.agg #[cs.getD (i*3) undef,cs.getD (i*3+1) undef,cs.getD (i*3+2) undef]) ks[i]):=fun i hi=>(d4.out i hi).ext a5
   have b9:Hid (∀u∈cs,u.oneCell'=true):=prv_ones g6.out d4.out;have l1:za w1 w1:=za.refl w1;clear a5 hB a6 a7 b7 b1 f9 f8 f7 HS h4 d4 i8;refine Eh (S:=(fun _=>True)) (by kernel_rfl) (trivial) fun zH=>?_;refine BD [0,1,2,3,4,5,6,7,8,9,10,11,12] (fun e v W=>JB (VQ w1.heap.size b2 t (.slice As s.length cs') (.slice Ak ks.length ck) s ks.length cs) DQ w1 [0,1,2,3,4,5,6,7,8,9,10,11] 12 XQ (fun v W=>∃g vS vK,OQ w1 W (fun b=>ok b/\b<w.heap.size) g t s ks cs vS vK/\v 11=.pointer (some ⟨g,0,none⟩)) e v W) (F:=?F37) (by kernel_rfl) (by kernel_rfl) (by decide) zH (fun v=>?hF37) ?init37 (by kernel_rfl) ?steps37 ?fin37
   case hF37=>(simp only [zX,Cj,List.getElem?_toArray,List.getElem?_cons_succ,List.getElem?_cons_zero,Option.bind,Act.put,List.setIfInBounds_toArray,List.set_cons_succ,List.set_cons_zero];rfl)
   case init37=>(intro e v he;exact JB.init (za.refl w1).drew (fun j hj=>he j (by simp at hj⊢;omega)) (fun h=>by rw [he 11 (by simp)] at h;cases h))
   case steps37=>
    refine zn.cons rfl (fun e v W K o hW he J E=>?_) ?_
    ·simp only [zb] at J E⊢;have D:=o.notS (j:=0) (by simp) he;have G:za w1 W:=o.g D;go_simp;exact E.out _ _ _ (by rfl) trivial (o.step (j:=0) (by simp) he VQ.st (by decide) (by simp [DQ]) (za.refl _) rfl ((o.x D).other (by simp)))
    refine zn.cons rfl (fun e v W K o hW he J E=>?_) ?_
    ·simp only [zb] at J E⊢;have D:=o.notS (j:=1) (by simp) he;have G:za w1 W:=o.g D;have B:=zw J [0] (by kernel_rfl);have v0:v 0=.pointer (some ⟨b2,0,none⟩):=o.gv D 0 (by simp) (B 0 (by simp));go_simp;exact E.out _ _ _ (by simp [Act.put,v0]) trivial (o.step (j:=1) (by simp) he VQ.st (by decide) (fun d L=>⟨by simp [DQ] at L⊢;omega,B d (by simp [DQ] at L⊢;omega)⟩) (za.refl _) rfl ((o.x D).other (by simp)))
    refine zn.cons rfl (fun e v W K o hW he J E=>?_) ?_
    ·simp only [zb] at J E⊢;have D:=o.notS (j:=2) (by simp) he;have G:za w1 W:=o.g D;go_simp;exact E.out _ _ _ (by rfl) trivial (o.step (j:=2) (by simp) he VQ.st (by decide) (by simp [DQ]) ((za.refl W).alloc _) ⟨_,rfl,own_emptyT W _ 3 _ G.size⟩ ((o.x D).other (by simp)))
    refine zn.cons rfl (fun e v W K o hW he J E=>?_) ?_
    ·simp only [zb] at J E⊢;have D:=o.notS (j:=3) (by simp) he;have G:za w1 W:=o.g D;go_simp;exact E.out _ _ _ (by rfl) trivial (o.step (j:=3) (by simp) he VQ.st (by decide) (by simp [DQ]) (za.refl _) rfl ((o.x D).other (by simp)))
    refine zn.cons rfl (fun e v W K o hW he J E=>?_) ?_
    ·simp only [zb] at J E⊢;have D:=o.notS (j:=4) (by simp) he;have G:za w1 W:=o.g D;have B:=zw J [3] (by kernel_rfl);have v3:v 3=.pointer (some ⟨b2,1,none⟩):=o.gv D 3 (by simp) (B 3 (by simp));go_simp;exact E.out _ _ _ (by simp [Act.put,v3]) trivial (o.step (j:=4) (by simp) he VQ.st (by decide) (fun d L=>⟨by simp [DQ] at L⊢;omega,B d (by simp [DQ] at L⊢;omega)⟩) (za.refl _) rfl ((o.x D).other (by simp)))
    refine zn.cons rfl (fun e v W K o hW he J E=>?_) ?_
    ·simp only [zb] at J E⊢;have D:=o.notS (j:=5) (by simp) he;have G:za w1 W:=o.g D;have B:=zw J [2,4] (by kernel_rfl);obtain ⟨gg,v2,o2⟩:=(show ∃g,v 2=.slice (some ⟨g,0,none⟩) 0 0/\W.ownsRow w1.heap.size 3 1 (v 2) 0 [] from o.gv D 2 (by simp) (B 2 (by simp)));have v4:v 4=.slice As s.length cs':=o.gv D 4 (by simp) (B 4 (by simp));rw [if_pos (by simp [Region.wanted])];refine Dw (ok:=fun b=>ok b/\b<w.heap.size) W (.tmp 9) (.tmp 11) eInt rfl w1.heap.size s.length gg (s.map (Value.int .i64)) (v 2) (v 4) rfl v2 rfl o2 (by rw [v4];exact zk.below h5.out G) intsOne29 G.size (by unfold maxLen;omega) (by omega) ?_;intro x w' ho hE j3;exact E.out _ _ _ (by simp [Act.put]) trivial (o.step (j:=5) (by simp) he VQ.st (by decide) (fun d L=>⟨by simp [DQ] at L⊢;omega,B d (by simp [DQ] at L⊢;omega)⟩) hE ho ((o.x D).other (by simp)))
    refine zn.cons rfl (fun e v W K o hW he J E=>?_) ?_
    ·simp only [zb] at J E⊢;have D:=o.notS (j:=6) (by simp) he;have G:za w1 W:=o.g D
     have I:e 11=true->∀g,pbk (v 11)=some g->g<W.heap.size:=fun h g O=>by
      obtain ⟨g',e',-,hb⟩:=(show ∃g,v 11=.pointer (some ⟨g,0,none⟩)/\w1.heap.size<=g/\zd W g 41 #[.int .i64 0,.slice none 0 0,.slice none 0 0] from o.gv D 11 (by simp) h);rw [e'] at O;injection O with O;subst O;exact zc hb
     go_simp;exact E.out _ _ _ (by rfl) trivial (o.step (j:=6) (by simp) he VQ.st (by decide) (by simp [DQ]) ((za.refl W).alloc _) ⟨_,rfl,own_emptyT W _ 41 _ G.size⟩ ((o.x D).kid (by simp) fun h g O=>by have:=I h g O;simp [obk,Value.ownBlock];omega))
    refine zn.cons rfl (fun e v W K o hW he J E=>?_) ?_
    ·simp only [zb] at J E⊢;have D:=o.notS (j:=7) (by simp) he;have G:za w1 W:=o.g D;go_simp;exact E.out _ _ _ (by rfl) trivial (o.step (j:=7) (by simp) he VQ.st (by decide) (by simp [DQ]) (za.refl _) rfl ((o.x D).other (by simp)))
    refine zn.cons rfl (fun e v W K o hW he J E=>?_) ?_
    ·simp only [zb] at J E⊢;have D:=o.notS (j:=8) (by simp) he;have G:za w1 W:=o.g D;have B:=zw J [7] (by kernel_rfl);have v7:v 7=.pointer (some ⟨b2,2,none⟩):=o.gv D 7 (by simp) (B 7 (by simp));go_simp;exact E.out _ _ _ (by simp [Act.put,v7]) trivial (o.step (j:=8) (by simp) he VQ.st (by decide) (fun d L=>⟨by simp [DQ] at L⊢;omega,B d (by simp [DQ] at L⊢;omega)⟩) (za.refl _) rfl ((o.x D).other (by simp)))
    refine zn.cons rfl (fun e v W K o hW he J E=>?_) ?_
    ·simp only [zb] at J E⊢;have D:=o.notS (j:=9) (by simp) he;have G:za w1 W:=o.g D
     have I:e 11=true->∀g,pbk (v 11)=some g->g<W.heap.size:=fun h g O=>by
      obtain ⟨g',e',-,hb⟩:=(show ∃g,v 11=.pointer (some ⟨g,0,none⟩)/\w1.heap.size<=g/\zd W g 41 #[.int .i64 0,.slice none 0 0,.slice none 0 0] from o.gv D 11 (by simp) h);rw [e'] at O;injection O with O;subst O;exact zc hb
     have B:=zw J [6,8] (by kernel_rfl);obtain ⟨gg,v6,o6⟩:=(show ∃g,v 6=.slice (some ⟨g,0,none⟩) 0 0/\W.ownsRow w1.heap.size 41 3 (v 6) 0 [] from o.gv D 6 (by simp) (B 6 (by simp)));have v8:v 8=.slice Ak ks.length ck:=o.gv D 8 (by simp) (B 8 (by simp));rw [if_pos (by simp [Region.wanted])];refine Dw (ok:=fun b=>ok b/\b<w.heap.size) W (.tmp 13) (.tmp 15) CW rfl w1.heap.size ks.length gg cs (v 6) (v 8) rfl v6 rfl o6 (by rw [v8];exact Ae.below g8.out G) b9.out G.size (by unfold maxLen;omega) (by omega) ?_;intro x w' ho hE j3
     have l2:e 11=true->∀g,pbk (v 11)=some g->obk 9 x≠some g:=fun h g O=>by
      have h6:=o.x D h 6 (by simp) (B 6 (by simp)) g O;have g0:=I h g O;rw [v6] at h6;have h7:gg≠g:=fun e=>h6 (by rw [e];rfl)
      have e9:obk 9 x=x.ownBlock:=by obtain ⟨A9,c9,rfl,-⟩:=Ae.of_own ho;rfl
      rw [e9];intro hc;rcases j3 with h | h
      ·rw [hc] at h;injection h with h;exact h7 h.symm
      ·rw [hc] at h;injection h with h;omega
     exact E.out _ _ _ (by simp [Act.put]) trivial (o.step (j:=9) (by simp) he VQ.st (by decide) (fun d L=>⟨by simp [DQ] at L⊢;omega,B d (by simp [DQ] at L⊢;omega)⟩) hE ho ((o.x D).kid (by simp) l2))
    refine zn.cons rfl (fun e v W K o hW he J E=>?_) ?_
    ·simp only [zb] at J E⊢;have D:=o.notS (j:=10) (by simp) he;have G:za w1 W:=o.g D;have B:=zw J [1,5,9] (by kernel_rfl);have v1:v 1=.int .i64 t:=o.gv D 1 (by simp) (B 1 (by simp));have o5:zB W w1.heap.size (v 5) s:=o.gv D 5 (by simp) (B 5 (by simp));have o9:W.ownsRow w1.heap.size 41 3 (v 9) ks.length cs:=o.gv D 9 (by simp) (B 9 (by simp));have c8:=fun h g O=>o.x D h 9 (by simp) (B 9 (by simp)) g O
     obtain ⟨A5,c5,v5,-⟩:=AA o5;obtain ⟨A9,c9,v9,-⟩:=Ae.of_own o9;rw [v5] at o5;rw [v9] at o9 c8;go_simp;exact E.out _ _ _ (by simp [Act.put,v1,v5,v9]) trivial (o.step (j:=10) (by simp) he VQ.st (by decide) (fun d L=>⟨by simp [DQ] at L⊢;omega,B d (by simp [DQ] at L⊢;omega)⟩) (za.refl _) ⟨_,_,rfl,o5,o9⟩ ((o.x D).kid (by simp) fun h g O=>by have:=c8 h g O;simpa [obk] using this))
    refine zn.cons rfl (fun e v W K o hW he J E=>?_) ?_
    ·simp only [zb] at J E⊢;have D:=o.notS (j:=11) (by simp) he;have G:za w1 W:=o.g D;go_simp
     exact E.out _ (.pointer (some ⟨W.heap.size,0,none⟩)) _ (by rfl) trivial (o.step (j:=11) (by simp) he VQ.st (by decide) (by simp [DQ]) ((za.refl W).alloc _) ⟨_,rfl,G.size,zd.new _ _ _ rfl⟩ (XQ.box fun k Q f6 g O=>by
      have O:W.heap.size=g:=by injection O
      subst O;intro hc
      have g0:∀b,obk k (v k)=some b->b<W.heap.size:=fun b hb=>by
       simp at Q;rcases Q with rfl | rfl | rfl
       ·obtain ⟨gg,v6,o6⟩:=(show ∃g,v 6=.slice (some ⟨g,0,none⟩) 0 0/\W.ownsRow w1.heap.size 41 3 (v 6) 0 [] from o.gv D 6 (by simp) f6);rw [v6] at hb o6;exact (World.ownsRow.lt o6 b hb).2
       ·have o9:W.ownsRow w1.heap.size 41 3 (v 9) ks.length cs:=o.gv D 9 (by simp) f6;obtain ⟨A9,c9,v9,-⟩:=Ae.of_own o9;rw [v9] at hb o9;exact (World.ownsRow.lt o9 b hb).2
       ·obtain ⟨y,z,v10,-,o9⟩:=(show ∃y z,v 10=.agg #[.int .i64 t,y,z]/\zB W w1.heap.size y s/\W.ownsRow w1.heap.size 41 3 z ks.length cs from o.gv D 10 (by simp) f6);rw [v10] at hb;exact (World.ownsRow.lt o9 b hb).2
      have:=g0 _ hc;omega))
    refine zn.cons rfl (fun e v W K o hW he J E=>?_) ?_
    ·simp only [zb] at J E⊢;have B:=zw J [10,11] (by kernel_rfl);have G:za w1 W:=o.g he;have e10:=B 10 (by simp);have e11:=B 11 (by simp);obtain ⟨y,z,v10,o5,o9⟩:=(show ∃y z,v 10=.agg #[.int .i64 t,y,z]/\zB W w1.heap.size y s/\W.ownsRow w1.heap.size 41 3 z ks.length cs from o.gv he 10 (by simp) e10);obtain ⟨g,v11,k8,I⟩:=(show ∃g,v 11=.pointer (some ⟨g,0,none⟩)/\w1.heap.size<=g/\zd W g 41 #[.int .i64 0,.slice none 0 0,.slice none 0 0] from o.gv he 11 (by simp) e11);have l3:z.ownBlock≠some g:=by have:=o.x he e11 10 (by simp) e10 g (by rw [v11];rfl);rw [v10] at this;simpa [obk] using this
     have e1:=(o.c 10 (by simp) e10 1 (by simp [DQ])).2;have e5:=(o.c 10 (by simp) e10 5 (by simp [DQ])).2;have e9:=(o.c 10 (by simp) e10 9 (by simp [DQ])).2;have e0:=(o.c 1 (by simp) e1 0 (by simp [DQ])).2;have e2:=(o.c 5 (by simp) e5 2 (by simp [DQ])).2;have e4:=(o.c 5 (by simp) e5 4 (by simp [DQ])).2;have e3:=(o.c 4 (by simp) e4 3 (by simp [DQ])).2;have e6:=(o.c 9 (by simp) e9 6 (by simp [DQ])).2;have e8:=(o.c 9 (by simp) e9 8 (by simp [DQ])).2;have e7:=(o.c 8 (by simp) e8 7 (by simp [DQ])).2;have i7:∀j∈[0,1,2,3,4,5,6,7,8,9,10,11],e j=true:=fun j hj=>by simp at hj;rcases hj with rfl | rfl | rfl | rfl | rfl | rfl | rfl | rfl | rfl | rfl | rfl | rfl <;> assumption
     obtain ⟨A5,c5,rfl,-⟩:=AA o5;obtain ⟨A9,c9,rfl,-⟩:=Ae.of_own o9;have y0:=I.cell (k:=0) rfl;have y1:=I.cell (k:=1) rfl;have y2:=I.cell (k:=2) rfl;have yf:∀j,W.frozen? ⟨g,j,none⟩=false:=fun j=>I.frozen j
     have hq:OQ w1 (((W.setCell ⟨g,0,none⟩ (.int .i64 t)).setCell ⟨g,1,none⟩ (.slice A5 s.length c5)).setCell ⟨g,2,none⟩ (.slice A9 ks.length c9)) (fun b=>ok b/\b<w.heap.size) g t s ks cs (.slice A5 s.length c5) (.slice A9 ks.length c9):=OQ.begin G k8 I o5 o9 (fun i hi=>(g9.out i hi).ext G) l3 (fun b hb=>by have:=d6.out;omega);go_simp;exact E.out _ undef _ (by simp [Act.put,v10,v11]) trivial (o.store (by decide) i7 ⟨g,_,_,hq,v11⟩)
    exact zn.nil
   case fin37=>
    intro v W o _;obtain ⟨g,vS,vK,hq,c7⟩:=(o.d rfl).2;clear o p0 p1 p2 h5 g8 g9 b9 l1 g6;rw [c7];obtain ⟨AS,cS,rfl,-⟩:=AA hq.side;obtain ⟨AK,cK,rfl,-⟩:=Ae.of_own hq.own;have V:=zh hq;have hx:za w1 W:=hq.ext;clear c7;have m0:W.cell? ⟨g,0,none⟩=some (.int .i64 t):=V.out.box.cell (k:=0) rfl;have m1:W.cell? ⟨g,1,none⟩=some (.slice AS s.length cS):=V.out.box.cell (k:=1) rfl;have m2:W.cell? ⟨g,2,none⟩=some (.slice AK ks.length cK):=V.out.box.cell (k:=2) rfl;have mf:∀j,W.frozen? ⟨g,j,none⟩=false:=fun j=>V.out.box.frozen j
    clear hq
    go_wp2_with fail
    refine (mod_calls q1 60 W (by omega) (by omega)).mono ?_;rintro e w' ⟨rfl,rfl⟩;obtain ⟨k,Q⟩:=EY (q1 % 60);have i9:0<=k:=by rw [Q];exact Int.emod_nonneg q1 (by omega)
    have j0:k<60:=by rw [Q];exact Int.emod_lt_of_pos q1 (by omega)
    rw [<-Q];clear Q;go_upto_region 3 with fail;go_cut [30] (fun v wx=>∃r:Bool,v=.bool r/\(r=true->0<ks.length)/\W=wx)
    case first=>
     rcases EC ks.length with hz | hz
     ·have l4:decide ((0:Int)<(ks.length:Int))=false:=DV (by omega);have l5:decide (0<ks.length)=false:=DV (by omega);clear hz
      go_wp2_with fail
      go_meet;exact ⟨false,rfl,(fun h=>by cases h),rfl⟩
     ·have l4:decide ((0:Int)<(ks.length:Int))=true:=DU (by omega);have l5:decide (0<ks.length)=true:=DU hz
      go_wp2_with fail
      refine (mod_calls q2 4 W (by omega) (by omega)).mono ?_;rintro e w' ⟨rfl,rfl⟩;generalize q2 % 4=e4;have k4:=zh hz;clear hz
      go_wp2_with fail
      go_meet;exact ⟨_,rfl,(fun _=>k4.out),rfl⟩
    case rest=>
     obtain ⟨r,rfl,hr,rfl⟩:=hcut
     cases r with
     | true=>
      have hz:=hr rfl;clear hr;go_upto_region 4 with fail;have n0:ks≠[]:=fun e=>by rw [e] at hz;simp at hz
      obtain ⟨gK,cK',e,m6,-⟩:=World.ownsRow.form V.out.own (by omega);injection e with e1 e2 e3;subst e1 e3;clear e2;have m3:=Bx V.out.own;have f5:cs.length=ks.length*3:=V.out.own.1;have kc:∀j,j<ks.length*3->W.cell? ⟨gK,j,none⟩=some (cs.getD j undef):=fun j hj=>by rw [World.ownsRow.cellAt V.out.own j hj,DP,DO (by omega)];rfl
      have b8:=V.out.kq rfl;obtain ⟨i,hi,m7,m8,m9⟩:=rem29 hz i9 j0;have a9:=b8.each i hi;have xa0:=za.rule (kc (i*3) (by omega));have xa1:=za.rule (kc (i*3+1) (by omega));have xa2:=za.rule (kc (i*3+2) (by omega));obtain ⟨a0,i4⟩:∃a,a=cs.getD (i*3) undef:=⟨_,rfl⟩;rw [<-i4] at xa0 a9;clear i4;obtain ⟨a1,i5⟩:∃a,a=cs.getD (i*3+1) undef:=⟨_,rfl⟩;rw [<-i5] at xa1 a9;clear i5;obtain ⟨a2,i6⟩:∃a,a=cs.getD (i*3+2) undef:=⟨_,rfl⟩;rw [<-i6] at xa2 a9;clear i6;have j8:Hid (w1.heap.size<=gK/\gK<W.heap.size):=World.ownsRow.lt V.out.own gK rfl;have m2:=za.rule m2;have i0:∀W',za W W'->W'.cell? ⟨b3,0,none⟩=some (.int .i64 q0):=fun W' h=>i0 W' (hx.trans h)
      have i1:∀W',za W W'->W'.cell? ⟨b3,1,none⟩=some (.int .i64 q1):=fun W' h=>i1 W' (hx.trans h)
      have i2:∀W',za W W'->W'.cell? ⟨b3,2,none⟩=some (.int .i64 q2):=fun W' h=>i2 W' (hx.trans h)
      have g5:Hid (∀W' q0 q1 q2,za W W'->Calls Tryz.prog 21 #[.agg #[a0,a1,a2],.agg #[.int .i64 q0,.int .i64 q1,.int .i64 q2]] W' (OddR W' (fun b=>((ok b/\b<w.heap.size)\/w1.heap.size<=b)/\b≠gK) c ks[i])):=fun W' q0 q1 q2 h=>IH.out W' _ _ _ c q0 q1 q2 (a9.ext h) (h8.out _ (DS hi)).2 hc (h8.out _ (DS hi)).1
      have j9:=zh b8;clear a9 kc;refine wp_dark fun Q' M k6=>?_;refine Ar (S:=(fun W'=>za W W')) zI ((za.refl W).drew) fun zH=>?_;generalize W.drew=wd at zH⊢;refine Ct 0 M zH ?_;simp only [zb,DN];refine Ct 1 M zH ?_;simp only [zb,DN];refine Ct 2 M zH ?_;simp only [zb,DN];refine Ct 3 M zH ?_;simp only [zb,DN];refine Ct 4 M zH ?_;simp only [zb,DN];refine Ct 5 M zH ?_;simp only [zb,DN];refine Ct 6 M zH ?_;simp only [zb,DN];refine Ct 7 M zH ?_;simp only [zb,DN];refine Ct 8 M zH ?_;simp only [zb,DN];refine Ct 9 M zH ?_;simp only [zb,DN];refine Ct 10 M zH ?_;simp only [zb,DN];refine Ct 11 M zH ?_;simp only [zb,DN];refine Ct 12 M zH ?_;simp only [zb,DN];refine Ct 13 M zH ?_;simp only [zb,DN];refine Ct 14 M zH ?_;simp only [zb,DN];refine Ct 15 M zH ?_;simp only [zb,DN];refine Ct 16 M zH ?_;simp only [zb,DN];refine Ct 17 M zH ?_;simp only [zb,DN];refine Ct 18 M zH ?_;simp only [zb,DN];refine Ct 19 M zH ?_;simp only [zb,DN];refine Ct 20 M zH ?_;simp only [zb,DN];refine Ct 21 M zH ?_;simp only [zb,DN];refine Ct 22 M zH ?_;simp only [zb,DN];refine Ct 23 M zH ?_;simp only [zb,DN];refine Ct 24 M zH ?_;simp only [zb,DN];refine rlR 25 fun K E=>?_;go_simp;go_at_call 21;refine (g5.out _ _ _ _ zH).mono ?_;rintro e w9 ⟨v9,p9,rfl,h9,f2,i3⟩;obtain ⟨As9,cs9,Ak9,ck9,rfl,-⟩:=f2.form;have b6:za W w9:=zH.trans h9
      have c0:zM w9 (fun b=>((ok b/\b<w.heap.size)\/w1.heap.size<=b)/\b≠gK) (.agg #[.int .i64 p9.task,.slice As9 p9.side.length cs9,.slice Ak9 p9.kids.length ck9]) p9:=f2.wk fun b hb g0=>by
       rcases hb with hb | hb
       ·exact hb
       ·have h1:=j8.out;have h2:=zH.size;exact ⟨.inr (by omega),by omega⟩
      have d7:=zh ((b8.ex b6).set hi c0);have k3:=zh i3;have kf:∀j,w9.frozen? ⟨gK,j,none⟩=false:=fun j=>World.ownsRow.frozenAt (Ag V.out.own b6) j
      clear f2 c0 i3 h9;go_simp;refine EZ E (b6) fun zH=>?_;clear E K;try simp only [zb,DN]
      refine Ct 26 M zH ?_;simp only [zb,DN];refine rlZ 27 fun K E=>?_;go_simp;refine E.out _ _ ?_;clear E K;refine AI (by kernel_rfl) ?_ _;subst k6;clear kf zH b6 xa0 xa1 xa2 i0 i1 i2;generalize (((w9.setCell ⟨gK,i*3,none⟩ (.int .i64 p9.task)).setCell ⟨gK,i*3+1,none⟩ (.slice As9 p9.side.length cs9)).setCell ⟨gK,i*3+2,none⟩ (.slice Ak9 p9.kids.length ck9))=wz at d7⊢;have a4:=zh (d7.out.fin (odd_kid HL.out hi k3.out));clear d7 m0 m1 m2 mf hx V j9 b8 g5;obtain ⟨As',cs'',Ak',ck',p',I,b0,U,a8⟩:=a4.out;have y0:=I.cell (k:=0) rfl;have y1:=I.cell (k:=1) rfl;have y2:=I.cell (k:=2) rfl;have hZ:=HZ.out.ext U;have z0:=hZ.cell (k:=0) rfl;have z1:=hZ.cell (k:=1) rfl;have z2:=hZ.cell (k:=2) rfl;have zf:∀j,wz.frozen? ⟨b4,j,none⟩=false:=fun j=>hZ.frozen j
      have d9:=zh b0;have d5:=zh U;have d8:=zh a8;have f0:=zh hZ;clear b0 U a8 hZ I a4
      go_wp2_with fail
      refine CF (P:=fun W=>bodyPost Tryz.prog Tryz.f21 _ Exit.ret _ W) (g2:=b4) ?_ f0.out;intro WZ f3 f1 Q;exact odd_end rfl rfl f3 (odd_fin g7.out d6.out d5.out d9.out f1 Q d8.out)
     | false=>
      clear hr
      go_wp2_with fail
      refine (mod_calls q0 8 W (by omega) (by omega)).mono ?_;rintro e w' ⟨rfl,rfl⟩;obtain ⟨d,J⟩:=EY (q0 % 8);have k7:d=0\/d=1\/d=2\/d=3\/d=4\/d=5\/d=6\/d=7:=by have:=Int.emod_nonneg q0 (show (8:Int)≠0 by omega);have:=Int.emod_lt_of_pos q0 (show (0:Int)<8 by omega);omega
      rw [<-J];clear J i0 i1 i2
      go_upto_block 0 with fail
      refine Dr (c':=oddB) (by kernel_rfl) ?_;refine sw_wp k7 i9 j0 j1 j2 V.out HL.out (fun c a a' w J h=>by obtain ⟨t,d⟩:=a;obtain ⟨t',d'⟩:=a';cases J;exact h) fun wz c6 _ _ _ _ _ _ _ _ _ _ _ _ _ _ _ _ _ _ _ _ _ _ _ _ _ _ _ _ _ _ _ _ _ _ _ _ _ _ _ _ _ _ _ _ _ _ _ _ _ _ _ _ _ _ _ _ _ _ _ _ _ _ _ _ _ _ _ _ _ _ _ _ _ _ _ _ _ _ _ _ _ _ _ _ _ _ _ _ _ _ _ _ _ _ _ _ _ _ _ _ _=>?_;have a4:=zh c6;clear c6 m0 m1 m2 mf hx V;obtain ⟨As',cs'',Ak',ck',p',I,b0,U,a8⟩:=a4.out;have y0:=I.cell (k:=0) rfl;have y1:=I.cell (k:=1) rfl;have y2:=I.cell (k:=2) rfl;have hZ:=HZ.out.ext U;have z0:=hZ.cell (k:=0) rfl;have z1:=hZ.cell (k:=1) rfl;have z2:=hZ.cell (k:=2) rfl;have zf:∀j,wz.frozen? ⟨b4,j,none⟩=false:=fun j=>hZ.frozen j
      have d9:=zh b0;have d5:=zh U;have d8:=zh a8;have f0:=zh hZ;clear b0 U a8 hZ I a4
      go_wp2_with fail
      refine CF (P:=fun W=>bodyPost Tryz.prog Tryz.f21 _ Exit.ret _ W) (g2:=b4) ?_ f0.out;intro WZ f3 f1 Q;exact odd_end rfl rfl f3 (odd_fin g7.out d6.out d5.out d9.out f1 Q d8.out)
theorem endB_none (h:pp.getD t []=[]):endB m pp t=false:=by
 unfold endB;rw [h];rfl
theorem endB_snoc {q:List Int} {x:Int} (h:pp.getD t []=q++[x]):endB m pp t=decide (x∈(m.tasks.getD t ([],[])).2):=by
 unfold endB;rw [h,List.getLast?_append];rfl
theorem vfinished_calls (t:Nat) (w:World) (hm:zt w ok v m) (hl:Lens m) (hp:zR w okp vp pp) (c0:pp.length<=m.tasks.length) (a7:∀x∈pp,x.length<=20000000000000):
  Calls Tryz.prog 178 #[v,vp,.int .i64 t] w fun e w'=>e=.returned (.bool (endB m pp t))/\za w w':=by
 obtain ⟨Af,cf,Au,cu,At,ct,rfl,-,-,b0⟩:=hm.parts;have b5:=zh b0;have HL:=zh hl;obtain ⟨vps,⟨Ap,cp,rfl,d7,a8⟩,a3⟩:=hp;have b4:=zh a8;have b1:=zh a3;have d5:=zh c0;have b3:=zh a7;have c8:(pp.length:Int)<=(m.tasks.length:Int):=by omega
 have e4:=hl.ts;clear hm hl b0 a8 a3 a7;obtain ⟨fb,M⟩:=EY (endB m pp t);rw [<-M];have K:=zh M;clear M
 go_enter Tryz.func178,Tryz.ntmps178
 go_upto_region 1 with fail;obtain ⟨L,r0,r1,r2,r3,r4,r5⟩:=box6 w (.int .i64 m.w) (.int .i64 m.h) (.int .i64 m.l) (.slice Af m.free.length cf) (.slice Au m.up.length cu) (.slice At m.tasks.length ct);generalize w.alloc _=w1 at L r0 r1 r2 r3 r4 r5⊢;obtain ⟨gm,a4⟩:=EY w.heap.size;rw [<-a4] at r0 r1 r2 r3 r4 r5⊢;clear a4;have o:=zh L;have hx:za w1 w1:=za.refl w1;clear L;have t0:(0:Int)<=(t:Int):=by omega
 by_cases I:t<pp.length
 ·have J:(t:Int)<(pp.length:Int):=by omega
  have E:t<m.tasks.length:=by omega
  have b8:(t:Int)<(m.tasks.length:Int):=by omega
  obtain ⟨bp,offp,up,rfl,-,G,Q⟩:=Br b4.out b1.out I I;have D:=b3.out _ (DS I);have O:pp.getD t []=pp[t]:=zgd I
  obtain ⟨P,a1⟩:=EY (pp[t]);rw [<-a1] at Q D O;have V:=zh O;clear a1 O;have rq:=za.rule (o.out.cell G);clear G;rcases (show P=[]\/∃q x,P=q++[x] from by by_cases h:P=[];exact .inl h;exact .inr ⟨_,_,(List.dropLast_concat_getLast h).symm⟩) with rfl | ⟨q,x,rfl⟩
  ·have U:Hid (fb=false):=by show _=_;rw [K.out];exact endB_none V.out
   obtain ⟨Aq,cq,rfl,-,-⟩:=Q;clear D
   go_wp2_with fail
   go_ret;exact ⟨zi U.out.symm,o.out⟩
  ·obtain ⟨Aq,cq,rfl,G,a9⟩:=Q;obtain ⟨bq,offq,e,-,B⟩:=zE a9 (k:=q.length) (by simp) (by simp);have B:w.cell? ⟨bq,offq+q.length,none⟩=some (.int .i64 x):=by rw [B];simp
   subst e;obtain ⟨bt,offt,sn,u1,u2,rfl,-,-,-,a2,-,a6⟩:=Bm b5.out E;have e5:=(HL.out.tl _ (DS E)).2;have a5:m.tasks.getD t ([],[])=m.tasks[t]:=zgd E
   have U:Hid (fb=decide (x∈(m.tasks[t]).2)):=by show _=_;rw [K.out,endB_snoc V.out,a5]
   clear a5;obtain ⟨N,hN⟩:=EY ((q++[x]).length);obtain ⟨n,hn⟩:=EY q.length;have a0:N=n+1:=by rw [hN,hn];simp
   rw [<-hN] at rq D G;rw [<-hn] at B;have rx:=za.rule (o.out.cell B);have rt2:=za.rule (o.out.cell a2);have b2:=zh (a6.below o.out);obtain ⟨Au2,cu2,rfl,-,-⟩:=a6;have e3:IntKind.i64.wrap ((N:Int) - 1)=(n:Int):=by rw [Em];omega
   have d8:(0:Int)<=(n:Int):=by omega
   have d9:(n:Int)<(N:Int):=by omega
   have c6:¬ ((N:Int)=0):=by omega
   have e0:((N:Int)==0)=false:=by rw [Ee];omega
   have e1:¬ ((pp.length:Int)<=(t:Int)):=by omega
   have e2:decide (pp.length<=t)=false:=DV (by omega);have HQ:=zh a0;clear a9 hN hn B a2 a0 c6
   go_wp2_with fail
   go_region_held3 (fun w'=>za w1 w') (first | (exact hx.drew) | assumption) ((go_at_call 73;refine (zL x _ (b2.out.below hx.drew) (by omega)).mono ?_;rintro e w9 ⟨rfl,rfl⟩))
   rename_i hS
   go_wp2_with fail
   go_ret;exact ⟨zi U.out.symm,o.out.trans hS⟩
 ·have J:¬ ((t:Int)<(pp.length:Int)):=by omega
  have c7:(pp.length:Int)<=(t:Int):=by omega
  have U:Hid (fb=false):=by
   show _=_;rw [K.out];exact endB_none (by rw [DP,Ek (by omega)];rfl)
  clear J
  go_wp2_with fail
  go_ret;exact ⟨zi U.out.symm,o.out⟩
theorem Ch (w:World) (hm:zt w ok v m) (V:Lens m) (hp:zR w okp vp pp) (a1:pp.length<=m.tasks.length) (I:∀x∈pp,x.length<=20000000000000):
  Calls Tryz.prog 119 #[v,vp] w fun e w'=>e=.returned (.int .i64 (curF m pp pp.length 0))/\za w w':=by
 have HM:=zh hm;have HL:=zh V;have HP:=zh hp;have M:=zh I;obtain ⟨Af,cf,Au,cu,At,ct,rfl,-,-,-⟩:=hm.parts;obtain ⟨vps,⟨Ap,cp,rfl,-,-⟩,-⟩:=hp;have a8:=V.ts;clear hm V I
 go_enter Tryz.func119,Tryz.ntmps119
 go_upto_region 1 with fail;obtain ⟨D,r0,r1,r2,r3,r4,r5⟩:=box6 w (.int .i64 m.w) (.int .i64 m.h) (.int .i64 m.l) (.slice Af m.free.length cf) (.slice Au m.up.length cu) (.slice At m.tasks.length ct);generalize w.alloc _=w1 at D r0 r1 r2 r3 r4 r5⊢;obtain ⟨gm,G⟩:=EY w.heap.size;rw [<-G] at r0 r1 r2 r3 r4 r5⊢;clear G;have B:=zh D;clear D
 go_wp2_with fail
 obtain ⟨N,Q⟩:=EY pp.length;have K:=zh Q;have a7:N<=20000000000000:=by omega
 rw [<-Q];clear Q;go_loopw [5] (fun i wr=>∃k:Nat,k<=N/\i=.int .i64 k/\Hid (curF m pp (N - k) k=curF m pp N 0)/\Hid (za w1 wr)) (fun i _=>N - (intOf i).toNat)
 case atStart=>exact ⟨0,Ef _,rfl,rfl,za.refl w1⟩
 case round=>
  obtain ⟨k,hk,rfl,E,hE⟩:=hrel;obtain ⟨wk,rfl⟩:∃wk:World,wk=wr:=⟨_,rfl⟩;have hx:za w1 wk:=hE.out
  have HV:Hid (Calls Tryz.prog 178 #[.agg #[.int .i64 m.w,.int .i64 m.h,.int .i64 m.l,.slice Af m.free.length cf,.slice Au m.up.length cu,.slice At m.tasks.length ct],.slice Ap N cp,.int .i64 k] wk fun e w'=>e=.returned (.bool (endB m pp k))/\za wk w'):=by
   (show Calls _ _ _ _ _)
   rw [K.out];exact vfinished_calls k wk (HM.out.below (B.out.trans hx)) HL.out (HP.out.below (B.out.trans hx)) a1 M.out
  go_wp2_with fail
  refine HV.out.mono ?_;rintro e w9 ⟨rfl,O⟩;have J:za w1 w9:=za.trans ‹_› O;obtain ⟨b,U⟩:=EY (endB m pp k);rw [<-U];have L:=zh U;clear U HV
  cases b with
  | true=>
   have a0:k<N:=by
    rw [K.out];refine Decidable.byContradiction fun h=>?_
    have:=L.out;rw [endB_none (by rw [DP,Ek (by omega)];rfl)] at this;cases this
   have o:Hid (curF m pp (N - (k+1)) (k+1)=curF m pp N 0):=by
    show _=_;rw [<-E.out,show N - k=(N - (k+1))+1 from by omega]
    conv=>rhs;unfold curF
    rw [if_pos ⟨by rw [<-K.out];exact a0,L.out.symm⟩]
   have a9:IntKind.i64.wrap ((k:Int)+1)=(k:Int)+1:=by rw [Em];omega
   go_wp2_with fail
   go_roundw
   case rel=>exact ⟨k+1,by omega,by go_num,o,J⟩
   case measure=>simp [intOf];omega
  | false=>
   have o:Hid (curF m pp N 0=k):=by
    show _=_;rw [<-E.out]
    cases N - k with
    | zero=>rfl
    | succ n=>
     unfold curF;rw [if_neg (fun h=>by rw [<-L.out] at h;exact absurd h.2 (by simp))]
   go_wp2_with fail
   go_ret;exact ⟨(show Ending.returned (Value.int .i64 ((k:Nat):Int))=.returned (.int .i64 ((curF m pp pp.length 0:Nat):Int)) from by have h:=o.out;rw [K.out] at h;rw [h]),B.out.trans J⟩
theorem Dv {okc:Nat->Prop} {vc:Value} {ch:List Int} (w:World) (hm:zt w ok v m) (hl:Lens m) (hc:Bq m=0) (K:zk w okc vc ch) (hi:zy m ch):
  Calls Tryz.prog 117 #[v,vc] w fun e w'=>e=.returned (.bool (decide (m.tasks.length<=zF m ch)))/\za w w':=by
 have HM:=zh hm;have HL:=zh hl;have HC:=zh hc;have HI:=zh hi;have Q:=zh K;have D:=zh (zU hc hi);obtain ⟨Af,cf,Au,cu,At,ct,rfl,-,-,-⟩:=hm.parts;obtain ⟨Ac,cc,rfl,-,-⟩:=K;have a9:=hl.ts;clear hm hl hc hi;obtain ⟨c,I⟩:=EY (zF m ch);rw [<-I];have U:=zh I;clear I
 go_enter Tryz.func117,Tryz.ntmps117
 go_upto_region 1 with fail;obtain ⟨G,r0,r1,r2,r3,r4,r5⟩:=box6 w (.int .i64 m.w) (.int .i64 m.h) (.int .i64 m.l) (.slice Af m.free.length cf) (.slice Au m.up.length cu) (.slice At m.tasks.length ct);generalize w.alloc _=w1 at G r0 r1 r2 r3 r4 r5⊢;obtain ⟨gm,L⟩:=EY w.heap.size;rw [<-L] at r0 r1 r2 r3 r4 r5⊢;clear L;have o:=zh G;clear G;have hx:za w1 w1:=za.refl w1
 go_wp2_with fail
 refine (Cx w1 (HM.out.below o.out) HL.out (Q.out.below o.out) (by have:=D.out;omega)).mono ?_;rintro e w2 ⟨vp,rfl,E,M⟩;have V:=zh M;have O:za w1 w2:=E;obtain ⟨_,⟨Ap,cp,rfl,-,-⟩,-⟩:=M
 have HV:Hid (∀W,za w2 W->Calls Tryz.prog 119 #[.agg #[.int .i64 m.w,.int .i64 m.h,.int .i64 m.l,.slice Af m.free.length cf,.slice Au m.up.length cu,.slice At m.tasks.length ct],.slice Ap (zm m ch).length cp] W fun e w'=>e=.returned (.int .i64 c)/\za W w'):=fun W hW=>by
  rw [U.out];exact Ch W (HM.out.below ((o.out.trans E).trans hW)) HL.out (V.out.below hW) D.out.1 (fun x hx=>by have:=(D.out.2.2.2 x hx).2;omega)
 clear E;obtain ⟨PL,B⟩:=EY ((zm m ch).length);rw [<-B] at HV⊢;clear B;have hy:za w2 w2:=za.refl w2
 go_wp2_with fail
 go_region_held3 (fun w'=>za w1 w'/\za w2 w') (first | (exact ⟨O.drew,hy.drew⟩) | (exact ⟨O.drew.trans J,hy.drew.trans J⟩)) ((go_at_call 119;refine (HV.out _ hy.drew).mono ?_;rintro e w9 ⟨rfl,J⟩))
 rename_i hS
 go_wp2_with fail
 go_ret;exact ⟨by simp,o.out.trans hS.1⟩
end
end Go.Proofs.YtjomnbdjajjgfaaGreatDoor
