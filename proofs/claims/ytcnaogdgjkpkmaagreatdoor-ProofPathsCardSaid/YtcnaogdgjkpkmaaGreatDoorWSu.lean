import Derived.Test.YtcnaogdgjkpkmaaGreatDoorWSt
import Derived.Deep.CutBlock
set_option linter.unusedVariables false
set_option linter.unusedSimpArgs false
set_option maxRecDepth 100000
set_option maxHeartbeats 16000000
namespace Go.Proofs.YtcnaogdgjkpkmaaGreatDoor
section
open Go.RowKit
attribute [local go_sem ↓] Go.wp_at_zero Go.wp_at_succ
def blkOf (n:Nat):Code->Option Code
 | .block id c=>if id=n then some (.block id c) else blkOf n c
 | .seq a b=>match blkOf n a with
  | some c=>some c
  | none=>blkOf n b
 | .cond _ a b=>match blkOf n a with
  | some c=>some c
  | none=>blkOf n b
 | .loop c=>blkOf n c
 | _=>none
noncomputable def oddB:Code:=(Tryz.f10.body.bind (blkOf 0)).getD .skip
theorem sw_wp {w1 W:World} {Q:Exit->Act->World->Prop} {ok:Nat->Prop} {g cS cK c:Nat} {AS AK:Option Addr} {t k d:Int} {s:List Int} {ks:List PT} {cs:List Value} {u0 u1 u2 u3 u4 u7 u8 u9 u10 u11 u12 u13 u14 u15 u16 u17 u18 u19 u20 u21 u22 u23 u24 u25 u26 u27 u28 u29 u30 u31 u32 u33 u34 u35 u36 u37 u38 u39 u40 u41 u42 u43 u44 u45 u46 u47 u48 u49 u50 u51 u52 u53 u54 u55 u56 u57 u58 u59 u60 u62 u63 u64 u65 u66 u67 u68 u69 u70 u71 u72 u73 u74 u75 u76 u77 u78 u79 u80 u81 u82 u83 u84 u85 u86 u87 u88 u89 u90 u91 u92 u93 u94 u95 u96 u97 u98 u99 u100 u101 u102 u103 u104 u105 u106 u107 u108 u109 u110 u111 u112 u113 u114 u115 u116 u117 u118 u119 u120 u121 u122 u123 u124 u125 u126 u127 u128 u129 u130 u131 u132 u133 u134 u135 u136 u137 u138 u139 u140 u141 u142 u143 u144 u145 u146 u147 u148 u149 u150 u151 u152 u153 u154 u155 u156 u157 u158 u159 u160 u161 u162 u163:Value}
  (b3:d=0\/d=1\/d=2\/d=3\/d=4\/d=5\/d=6\/d=7) (V:0<=k) (a0:k<60) (a8:s.length<=1000000000000) (d5:ks.length<=1000000000000)
  (hq:OQ w1 W ok g t s ks cs (.slice AS s.length cS) (.slice AK ks.length cK)) (hl:(PT.node t s ks).LenN c)
  (hP:∀c (a a':Act) w,a.defers=a'.defers->Q (.panic c) a w->Q (.panic c) a' w)
  (hQ:∀(W':World),OZ w1 W' ok g c (.node t s ks)->∀(x62 x63 x64 x65 x66 x67 x68 x69 x70 x71 x72 x73 x74 x75 x76 x77 x78 x79 x80 x81 x82 x83 x84 x85 x86 x87 x88 x89 x90 x91 x92 x93 x94 x95 x96 x97 x98 x99 x100 x101 x102 x103 x104 x105 x106 x107 x108 x109 x110 x111 x112 x113 x114 x115 x116 x117 x118 x119 x120 x121 x122 x123 x124 x125 x126 x127 x128 x129 x130 x131 x132 x133 x134 x135 x136 x137 x138 x139 x140 x141 x142 x143 x144 x145 x146 x147 x148 x149 x150 x151 x152 x153 x154 x155 x156 x157 x158 x159 x160 x161 x162:Value),Q .normal ⟨(u0 :: u1 :: u2 :: u3 :: u4 :: Value.pointer (some ⟨g,0,none⟩) :: Value.int .i64 k :: u7 :: u8 :: u9 :: u10 :: u11 :: u12 :: u13 :: u14 :: u15 :: u16 :: u17 :: u18 :: u19 :: u20 :: u21 :: u22 :: u23 :: u24 :: u25 :: u26 :: u27 :: u28 :: u29 :: u30 :: u31 :: u32 :: u33 :: u34 :: u35 :: u36 :: u37 :: u38 :: u39 :: u40 :: u41 :: u42 :: u43 :: u44 :: u45 :: u46 :: u47 :: u48 :: u49 :: u50 :: u51 :: u52 :: u53 :: u54 :: u55 :: u56 :: u57 :: u58 :: u59 :: u60 :: Value.int .i64 d :: x62 :: x63 :: x64 :: x65 :: x66 :: x67 :: x68 :: x69 :: x70 :: x71 :: x72 :: x73 :: x74 :: x75 :: x76 :: x77 :: x78 :: x79 :: x80 :: x81 :: x82 :: x83 :: x84 :: x85 :: x86 :: x87 :: x88 :: x89 :: x90 :: x91 :: x92 :: x93 :: x94 :: x95 :: x96 :: x97 :: x98 :: x99 :: x100 :: x101 :: x102 :: x103 :: x104 :: x105 :: x106 :: x107 :: x108 :: x109 :: x110 :: x111 :: x112 :: x113 :: x114 :: x115 :: x116 :: x117 :: x118 :: x119 :: x120 :: x121 :: x122 :: x123 :: x124 :: x125 :: x126 :: x127 :: x128 :: x129 :: x130 :: x131 :: x132 :: x133 :: x134 :: x135 :: x136 :: x137 :: x138 :: x139 :: x140 :: x141 :: x142 :: x143 :: x144 :: x145 :: x146 :: x147 :: x148 :: x149 :: x150 :: x151 :: x152 :: x153 :: x154 :: x155 :: x156 :: x157 :: x158 :: x159 :: x160 :: x161 :: x162 :: u163 :: []).toArray,[]⟩ W'):
  oddB.wp Tryz.prog Q ⟨(u0 :: u1 :: u2 :: u3 :: u4 :: Value.pointer (some ⟨g,0,none⟩) :: Value.int .i64 k :: u7 :: u8 :: u9 :: u10 :: u11 :: u12 :: u13 :: u14 :: u15 :: u16 :: u17 :: u18 :: u19 :: u20 :: u21 :: u22 :: u23 :: u24 :: u25 :: u26 :: u27 :: u28 :: u29 :: u30 :: u31 :: u32 :: u33 :: u34 :: u35 :: u36 :: u37 :: u38 :: u39 :: u40 :: u41 :: u42 :: u43 :: u44 :: u45 :: u46 :: u47 :: u48 :: u49 :: u50 :: u51 :: u52 :: u53 :: u54 :: u55 :: u56 :: u57 :: u58 :: u59 :: u60 :: Value.int .i64 d :: u62 :: u63 :: u64 :: u65 :: u66 :: u67 :: u68 :: u69 :: u70 :: u71 :: u72 :: u73 :: u74 :: u75 :: u76 :: u77 :: u78 :: u79 :: u80 :: u81 :: u82 :: u83 :: u84 :: u85 :: u86 :: u87 :: u88 :: u89 :: u90 :: u91 :: u92 :: u93 :: u94 :: u95 :: u96 :: u97 :: u98 :: u99 :: u100 :: u101 :: u102 :: u103 :: u104 :: u105 :: u106 :: u107 :: u108 :: u109 :: u110 :: u111 :: u112 :: u113 :: u114 :: u115 :: u116 :: u117 :: u118 :: u119 :: u120 :: u121 :: u122 :: u123 :: u124 :: u125 :: u126 :: u127 :: u128 :: u129 :: u130 :: u131 :: u132 :: u133 :: u134 :: u135 :: u136 :: u137 :: u138 :: u139 :: u140 :: u141 :: u142 :: u143 :: u144 :: u145 :: u146 :: u147 :: u148 :: u149 :: u150 :: u151 :: u152 :: u153 :: u154 :: u155 :: u156 :: u157 :: u158 :: u159 :: u160 :: u161 :: u162 :: u163 :: []).toArray,[]⟩ W:=by
 conv=>arg 2;whnf
 have r:=zh hq;have U:=zh hl;have hx:zc w1 W:=hq.ext;have m0:W.cell? ⟨g,0,none⟩=some (.int .i64 t):=r.out.box.cell (k:=0) rfl;have m1:W.cell? ⟨g,1,none⟩=some (.slice AS s.length cS):=r.out.box.cell (k:=1) rfl;have m2:W.cell? ⟨g,2,none⟩=some (.slice AK ks.length cK):=r.out.box.cell (k:=2) rfl;have mf:∀j,W.frozen? ⟨g,j,none⟩=false:=fun j=>r.out.box.frozen j
 have B:=zh hQ;have D:=zh hP;clear hq hl hQ hP;rcases b3 with rfl | rfl | rfl | rfl | rfl | rfl | rfl | rfl
 ·obtain ⟨r3,b9,-,I,J⟩:=rem29 (n:=3) (by decide) V a0;have I:k.tmod 3=(r3:Int):=I;have J:IntKind.i64.wrap (k.tmod 3)=(r3:Int):=J;obtain ⟨T1,d8⟩:∃T1,IntKind.i64.wrap (t+(r3:Int))=T1:=⟨_,rfl⟩;obtain ⟨T2,d9⟩:∃T2,IntKind.i64.wrap (T1 - 1)=T2:=⟨_,rfl⟩;have o:=r.out.finT U.out T2
  go_wp2_with fail
  exact B.out _ o _ _ _ _ _ _ _ _ _ _ _ _ _ _ _ _ _ _ _ _ _ _ _ _ _ _ _ _ _ _ _ _ _ _ _ _ _ _ _ _ _ _ _ _ _ _ _ _ _ _ _ _ _ _ _ _ _ _ _ _ _ _ _ _ _ _ _ _ _ _ _ _ _ _ _ _ _ _ _ _ _ _ _ _ _ _ _ _ _ _ _ _ _ _ _ _ _ _ _ _ _
 ·rcases Em s.length with hz | hz
  ·have M:decide ((0:Int)<(s.length:Int))=false:=DG (by omega);have O:decide (0<s.length)=false:=DG (by omega);clear hz;have o:=r.out.same U.out
   go_wp2_with fail
   exact B.out _ o _ _ _ _ _ _ _ _ _ _ _ _ _ _ _ _ _ _ _ _ _ _ _ _ _ _ _ _ _ _ _ _ _ _ _ _ _ _ _ _ _ _ _ _ _ _ _ _ _ _ _ _ _ _ _ _ _ _ _ _ _ _ _ _ _ _ _ _ _ _ _ _ _ _ _ _ _ _ _ _ _ _ _ _ _ _ _ _ _ _ _ _ _ _ _ _ _ _ _ _ _
  ·have M:decide ((0:Int)<(s.length:Int))=true:=DF (by omega);have O:decide (0<s.length)=true:=DF hz;obtain ⟨i,hi,b6,a6,a7⟩:=rem29 hz V a0;obtain ⟨gS,cS',e,b5,-⟩:=World.ownsRow.form r.out.side hz;injection e with e1 e2 e3;subst e1 e3;clear e2;go_upto_region 11 with fail;go_upto_region 12 with fail;have b0:Hid (W.cell? ⟨g,1,none⟩=some (.slice (some ⟨gS,0,none⟩) s.length cS)):=m1;refine wp_cast (c':=odd12) (by kernel_rfl) ?_;refine r12_wp r.out U.out m1 hz hi a6 a7 a8 (fun c a a' w hd h=>D.out c a a' w hd h) fun wz o _ _ _ _ _ _ _ _ _ _ _ _ _ _ _ _ _ _ _=>?_;clear b0
   go_wp2_with fail
   exact B.out _ o _ _ _ _ _ _ _ _ _ _ _ _ _ _ _ _ _ _ _ _ _ _ _ _ _ _ _ _ _ _ _ _ _ _ _ _ _ _ _ _ _ _ _ _ _ _ _ _ _ _ _ _ _ _ _ _ _ _ _ _ _ _ _ _ _ _ _ _ _ _ _ _ _ _ _ _ _ _ _ _ _ _ _ _ _ _ _ _ _ _ _ _ _ _ _ _ _ _ _ _ _
 ·go_wp2_with (at_builtin;refine BL (ok:=fun _=>True) rfl _ _ _ eInt rfl w1.heap.size s.length 1 (s.map (Value.int .i64)) [.int .i64 k] _ _ rfl rfl (Ag r.out.side ((zc.refl W).alloc _)) ⟨_,_,rfl,DC _,AG.block (zj.new _ _ _ rfl) trivial rfl⟩ (by simp [Value.oneCell']) (DE (Below.size hx) (by simp)) (by unfold maxLen;omega) (by omega) ?_)
  intro v9 w9 ho hg a1;have E:=r.out.ex ((zc.refl W).alloc (.cells #[.int .i64 k] 3))
  have hO:zF w9 w1.heap.size v9 (s++[k]):=by
   unfold zF;rw [DK,Es];exact ho
  have L:=(E.grown hg E.side_ne).2.1;have y1:=L.cell (k:=1) rfl;have yf:∀j,w9.frozen? ⟨g,j,none⟩=false:=fun j=>L.frozen j
  have o:=E.finS U.out (fun b hb=>hb) hg hO (by simp);obtain ⟨A9,c9,rfl,-⟩:=An.of_own ho;clear E hO L ho hg a1 m0 m1 m2 mf
  go_wp2_with fail
  exact B.out _ o _ _ _ _ _ _ _ _ _ _ _ _ _ _ _ _ _ _ _ _ _ _ _ _ _ _ _ _ _ _ _ _ _ _ _ _ _ _ _ _ _ _ _ _ _ _ _ _ _ _ _ _ _ _ _ _ _ _ _ _ _ _ _ _ _ _ _ _ _ _ _ _ _ _ _ _ _ _ _ _ _ _ _ _ _ _ _ _ _ _ _ _ _ _ _ _ _ _ _ _ _
 ·rcases Em s.length with hz | hz
  ·have M:decide ((0:Int)<(s.length:Int))=false:=DG (by omega);have O:decide (0<s.length)=false:=DG (by omega);clear hz;have o:=r.out.same U.out
   go_wp2_with fail
   exact B.out _ o _ _ _ _ _ _ _ _ _ _ _ _ _ _ _ _ _ _ _ _ _ _ _ _ _ _ _ _ _ _ _ _ _ _ _ _ _ _ _ _ _ _ _ _ _ _ _ _ _ _ _ _ _ _ _ _ _ _ _ _ _ _ _ _ _ _ _ _ _ _ _ _ _ _ _ _ _ _ _ _ _ _ _ _ _ _ _ _ _ _ _ _ _ _ _ _ _ _ _ _ _
  ·have M:decide ((0:Int)<(s.length:Int))=true:=DF (by omega);have O:decide (0<s.length)=true:=DF hz;obtain ⟨i,hi,b6,a6,a7⟩:=rem29 hz V a0;obtain ⟨gS,cS',e,b5,-⟩:=World.ownsRow.form r.out.side hz;injection e with e1 e2 e3;subst e1 e3;clear e2;have f0:s≠[]:=fun e=>by rw [e] at hz;simp at hz
   have e6:IntKind.i64.wrap (k - 2)=k - 2:=by rw [DY];omega
   have e5:(i:Int)<(s.length:Int):=by omega
   have e4:(0:Int)<=(i:Int):=by omega
   go_upto_region 17 with fail;refine DT (S:=(fun W=>W.cell? ⟨g,1,none⟩=some (.slice (some ⟨gS,0,none⟩) s.length cS))) zN (m1) fun zH=>?_;obtain ⟨cb,b1⟩:=own_kind r.out.side gS rfl;have b7:g≠gS:=fun e=>(r.out.side_ne gS rfl).2 e.symm
   refine wpAnyH_take (i:=0) (v:=?v1) rfl (by kernel_rfl) (by kernel_rfl) (by kernel_rfl) (fun _ _ _ h=>D.out _ _ _ _ (by rfl) h) (Or.inl ⟨?w1,?y1⟩) zH ?r1
   case w1=>rfl
   case y1=>(intro w G;go_simp;try with_reducible rfl)
   simp only [za,Dz];refine wpAnyH_take (i:=1) (v:=?v2) rfl (by kernel_rfl) (by kernel_rfl) (by kernel_rfl) (fun _ _ _ h=>D.out _ _ _ _ (by rfl) h) (Or.inl ⟨?w2,?y2⟩) zH ?r2
   case w2=>rfl
   case y2=>(intro w G;go_simp;try with_reducible rfl)
   simp only [za,Dz];refine wpAnyH_take (i:=2) (v:=?v3) rfl (by kernel_rfl) (by kernel_rfl) (by kernel_rfl) (fun _ _ _ h=>D.out _ _ _ _ (by rfl) h) (Or.inl ⟨?w3,?y3⟩) zH ?r3
   case w3=>rfl
   case y3=>(intro w G;go_simp;try with_reducible rfl)
   simp only [za,Dz];refine wpAnyH_take (i:=3) (v:=?v4) rfl (by kernel_rfl) (by kernel_rfl) (by kernel_rfl) (fun _ _ _ h=>D.out _ _ _ _ (by rfl) h) (Or.inl ⟨?w4,?y4⟩) zH ?r4
   case w4=>rfl
   case y4=>(intro w G;go_simp;try with_reducible rfl)
   simp only [za,Dz];refine wpAnyH_take (i:=4) (v:=?v5) rfl (by kernel_rfl) (by kernel_rfl) (by kernel_rfl) (fun _ _ _ h=>D.out _ _ _ _ (by rfl) h) (Or.inl ⟨?w5,?y5⟩) zH ?r5
   case w5=>rfl
   case y5=>(intro w G;go_simp;try with_reducible rfl)
   simp only [za,Dz];refine wpAnyH_take (i:=5) (v:=?v6) rfl (by kernel_rfl) (by kernel_rfl) (by kernel_rfl) (fun _ _ _ h=>D.out _ _ _ _ (by rfl) h) (Or.inl ⟨?w6,?y6⟩) zH ?r6
   case w6=>rfl
   case y6=>(intro w G;go_simp;try with_reducible rfl)
   simp only [za,Dz];refine wpAnyH_take (i:=6) (v:=?v7) rfl (by kernel_rfl) (by kernel_rfl) (by kernel_rfl) (fun _ _ _ h=>D.out _ _ _ _ (by rfl) h) (Or.inl ⟨?w7,?y7⟩) zH ?r7
   case w7=>rfl
   case y7=>(intro w G;go_simp;try with_reducible rfl)
   simp only [za,Dz];refine wpAnyH_take (i:=7) (v:=?v8) rfl (by kernel_rfl) (by kernel_rfl) (by kernel_rfl) (fun _ _ _ h=>D.out _ _ _ _ (by rfl) h) (Or.inl ⟨?w8,?y8⟩) zH ?r8
   case w8=>rfl
   case y8=>(intro w G;go_simp;try with_reducible rfl)
   simp only [za,Dz];refine wpAnyH_take (i:=8) (v:=?v9) rfl (by kernel_rfl) (by kernel_rfl) (by kernel_rfl) (fun _ _ _ h=>D.out _ _ _ _ (by rfl) h) (Or.inl ⟨?w9,?y9⟩) zH ?r9
   case w9=>rfl
   case y9=>(intro w G;go_simp;try with_reducible rfl)
   simp only [za,Dz];refine wpAnyH_take (i:=9) (v:=?v10) rfl (by kernel_rfl) (by kernel_rfl) (by kernel_rfl) (fun _ _ _ h=>D.out _ _ _ _ (by rfl) h) (Or.inl ⟨?w10,?y10⟩) zH ?r10
   case w10=>rfl
   case y10=>(intro w G;go_simp;try with_reducible rfl)
   simp only [za,Dz]
   have z0:W.drew.cell? ⟨gS,i,none⟩=some (.int .i64 s[i]):=by
    have h:=World.ownsRow.cellAt r.out.side i (by omega);rw [Ek,DA hi] at h;exact h
   have zf:W.drew.frozen? ⟨gS,i,none⟩=false:=World.ownsRow.frozenAt r.out.side i;have o:=(r.out.ex (zc.refl W).drew).finSe (i:=i) (z:=k - 2) U.out rfl hi;refine zC 10 fun K hK=>?_;go_simp;refine EI hK ((DS (a:=⟨g,1,none⟩) (DL W.drew ⟨gS,i,none⟩ _ g b7)).trans zH) fun zH=>?_;clear hK K z0 zf zH b1;refine Eg (by kernel_rfl) ?_ _;clear m0 m1 m2 mf
   go_wp2_with fail
   exact B.out _ o _ _ _ _ _ _ _ _ _ _ _ _ _ _ _ _ _ _ _ _ _ _ _ _ _ _ _ _ _ _ _ _ _ _ _ _ _ _ _ _ _ _ _ _ _ _ _ _ _ _ _ _ _ _ _ _ _ _ _ _ _ _ _ _ _ _ _ _ _ _ _ _ _ _ _ _ _ _ _ _ _ _ _ _ _ _ _ _ _ _ _ _ _ _ _ _ _ _ _ _ _
 ·obtain ⟨r3,b9,-,I,J⟩:=rem29 (n:=3) (by decide) V a0;have I:k.tmod 3=(r3:Int):=I;have J:IntKind.i64.wrap (k.tmod 3)=(r3:Int):=J
  go_wp2_with (at_builtin;refine BL (ok:=fun _=>True) rfl _ _ _ eProof rfl w1.heap.size ks.length 1 cs [.int .i64 r3,.slice none 0 0,.slice none 0 0] _ _ rfl rfl (Ag r.out.own ((zc.refl W).alloc _)) (Cc (zj.new _ _ _ rfl)) (fun u hu=>by simp at hu;rcases hu with rfl | rfl | rfl <;> rfl) (DE (Below.size hx) (by simp)) (by unfold maxLen;omega) (by omega) ?_)
  intro v9 w9 ho hg a1;have E:=r.out.ex ((zc.refl W).alloc (.cells #[.int .i64 r3,.slice none 0 0,.slice none 0 0] 27));have L:=(E.grown hg E.kids_ne).2.1;have y2:=L.cell (k:=2) rfl;have yf:∀j,w9.frozen? ⟨g,j,none⟩=false:=fun j=>L.frozen j
  have o:=E.finK U.out hg ho (a1.imp id fun e=>e.trans (by simp));obtain ⟨A9,c9,rfl,-⟩:=An.of_own ho;clear E L ho hg a1 m0 m1 m2 mf
  go_wp2_with fail
  exact B.out _ o _ _ _ _ _ _ _ _ _ _ _ _ _ _ _ _ _ _ _ _ _ _ _ _ _ _ _ _ _ _ _ _ _ _ _ _ _ _ _ _ _ _ _ _ _ _ _ _ _ _ _ _ _ _ _ _ _ _ _ _ _ _ _ _ _ _ _ _ _ _ _ _ _ _ _ _ _ _ _ _ _ _ _ _ _ _ _ _ _ _ _ _ _ _ _ _ _ _ _ _ _
 ·rcases Em ks.length with hz | hz
  ·have M:decide ((0:Int)<(ks.length:Int))=false:=DG (by omega);have O:decide (0<ks.length)=false:=DG (by omega);clear hz;have o:=r.out.same U.out
   go_wp2_with fail
   exact B.out _ o _ _ _ _ _ _ _ _ _ _ _ _ _ _ _ _ _ _ _ _ _ _ _ _ _ _ _ _ _ _ _ _ _ _ _ _ _ _ _ _ _ _ _ _ _ _ _ _ _ _ _ _ _ _ _ _ _ _ _ _ _ _ _ _ _ _ _ _ _ _ _ _ _ _ _ _ _ _ _ _ _ _ _ _ _ _ _ _ _ _ _ _ _ _ _ _ _ _ _ _ _
  ·have M:decide ((0:Int)<(ks.length:Int))=true:=DF (by omega);have O:decide (0<ks.length)=true:=DF hz;obtain ⟨gK,cK',e,b4,-⟩:=World.ownsRow.form r.out.own hz;injection e with e1 e2 e3;subst e1 e3;clear e2;have c8:=AN r.out.own;have e7:(1:Int)<=(ks.length:Int):=by omega
   have E:(1:Int)<=(cK:Int):=by omega
   have e8:(ks.length:Int)<=(cK:Int):=by omega
   have hq4:1<cK\/cK=1:=by omega
   rcases hq4 with hq4 | hq4
   ·have o:=r.out.finD U.out rfl hz
    go_wp2_with fail
    exact B.out _ o _ _ _ _ _ _ _ _ _ _ _ _ _ _ _ _ _ _ _ _ _ _ _ _ _ _ _ _ _ _ _ _ _ _ _ _ _ _ _ _ _ _ _ _ _ _ _ _ _ _ _ _ _ _ _ _ _ _ _ _ _ _ _ _ _ _ _ _ _ _ _ _ _ _ _ _ _ _ _ _ _ _ _ _ _ _ _ _ _ _ _ _ _ _ _ _ _ _ _ _ _
   ·subst hq4;have o:=r.out.finN (A:=some ⟨gK,0,none⟩) (cap:=0) U.out
    go_wp2_with fail
    exact B.out _ o _ _ _ _ _ _ _ _ _ _ _ _ _ _ _ _ _ _ _ _ _ _ _ _ _ _ _ _ _ _ _ _ _ _ _ _ _ _ _ _ _ _ _ _ _ _ _ _ _ _ _ _ _ _ _ _ _ _ _ _ _ _ _ _ _ _ _ _ _ _ _ _ _ _ _ _ _ _ _ _ _ _ _ _ _ _ _ _ _ _ _ _ _ _ _ _ _ _ _ _ _
 ·by_cases hz:1<ks.length
  ·have M:decide ((1:Int)<(ks.length:Int))=true:=DF (by omega);have O:decide (1<ks.length)=true:=DF hz;obtain ⟨gK,cK',e,b4,-⟩:=World.ownsRow.form r.out.own (by omega);injection e with e1 e2 e3;subst e1 e3;clear e2;go_upto_region 24 with fail;go_upto_region 25 with fail;refine wp_cast (c':=odd25) (by kernel_rfl) ?_;refine r25_wp r.out U.out m2 hz (fun c a a' w hd h=>D.out c a a' w hd h) fun wz o _ _ _ _ _ _ _ _ _ _ _ _ _ _=>?_
   go_wp2_with fail
   exact B.out _ o _ _ _ _ _ _ _ _ _ _ _ _ _ _ _ _ _ _ _ _ _ _ _ _ _ _ _ _ _ _ _ _ _ _ _ _ _ _ _ _ _ _ _ _ _ _ _ _ _ _ _ _ _ _ _ _ _ _ _ _ _ _ _ _ _ _ _ _ _ _ _ _ _ _ _ _ _ _ _ _ _ _ _ _ _ _ _ _ _ _ _ _ _ _ _ _ _ _ _ _ _
  ·have M:decide ((1:Int)<(ks.length:Int))=false:=DG (by omega);have O:decide (1<ks.length)=false:=DG hz;have o:=r.out.same U.out
   go_wp2_with fail
   exact B.out _ o _ _ _ _ _ _ _ _ _ _ _ _ _ _ _ _ _ _ _ _ _ _ _ _ _ _ _ _ _ _ _ _ _ _ _ _ _ _ _ _ _ _ _ _ _ _ _ _ _ _ _ _ _ _ _ _ _ _ _ _ _ _ _ _ _ _ _ _ _ _ _ _ _ _ _ _ _ _ _ _ _ _ _ _ _ _ _ _ _ _ _ _ _ _ _ _ _ _ _ _ _
 ·obtain ⟨r4,e9,-,a2,a3⟩:=rem29 (n:=4) (by decide) V a0;have a2:k.tmod 4=(r4:Int):=a2;have a3:IntKind.i64.wrap (k.tmod 4)=(r4:Int):=a3;have o:=r.out.finL (c:=c) (r4:Int)
  go_wp2_with fail
  exact B.out _ o _ _ _ _ _ _ _ _ _ _ _ _ _ _ _ _ _ _ _ _ _ _ _ _ _ _ _ _ _ _ _ _ _ _ _ _ _ _ _ _ _ _ _ _ _ _ _ _ _ _ _ _ _ _ _ _ _ _ _ _ _ _ _ _ _ _ _ _ _ _ _ _ _ _ _ _ _ _ _ _ _ _ _ _ _ _ _ _ _ _ _ _ _ _ _ _ _ _ _ _ _
end
end Go.Proofs.YtcnaogdgjkpkmaaGreatDoor
