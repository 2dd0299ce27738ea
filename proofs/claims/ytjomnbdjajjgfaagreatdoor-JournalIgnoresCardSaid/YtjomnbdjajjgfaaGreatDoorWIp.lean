import Derived.Test.YtjomnbdjajjgfaaGreatDoorWIo
import Derived.Deep.LoopGhost
import Derived.Deep.AppendLies
import Derived.StillTailTactics
import Derived.Scope
import Derived.LoopIn
set_option linter.unusedVariables false
set_option linter.unusedSimpArgs false
set_option maxRecDepth 100000
set_option maxHeartbeats 16000000
namespace Go.Proofs.YtjomnbdjajjgfaaGreatDoor
variable {n:Nat} {ok ok':Nat->Prop} {p:PT} {a b c v:Value} {W:World}
section
open Go.RowKit
attribute [local go_sem ↓] Go.wp_at_zero Go.wp_at_succ
def startsReg (n:Nat):Code->Bool
 | .region id _ _=>decide (id=n)
 | .seq a _=>startsReg n a
 | .block _ c=>startsReg n c
 | _=>false
def CY (n:Nat):Code->Option Code
 | .loop c=>if startsReg n c=true then some (.loop c) else CY n c
 | .seq a b=>match CY n a with
  | some c=>some c
  | none=>CY n b
 | .cond _ a b=>match CY n a with
  | some c=>some c
  | none=>CY n b
 | .block _ c=>CY n c
 | _=>none
noncomputable def code12:Code:=(Tryz.f26.body.bind (CY 29)).getD .skip
theorem loop12_wp {w1 wr0:World} {Q:Exit->Act->World->Prop} {B gm gd gF gT cF cT t:Nat} {W H L:Int} {fs ts:List Value} {u0 u1 u2 u3 u7 u8 u9 u10 u11 u13 u14 u15 u16 u17 u18 u19 u20 u21 u22 u23 u24 u25 u26 u27 u28 u29 u30 u31 u32 u33 u34 u35 u36 u37 u38 u39 u40 u41 u42 u43 u44 u45 u46 u47 u48 u49 u50 u51 u52 u53 u54 u55 u56 u57 u58 u59 u60 u61 u62 u63 u64 u65 u66 u67 u68 u69 u70 u71 u72 u73 u74 u75 u76 u77 u78 u79 u80 u81 u82 u83 u84 u85 u86 u87 u88 u89 u90 u91 u92 u93 u94 u95 u96 u97 u98 u99 u100 u101 u102 u103 u104 u105 u106 u107 u108 u109 u110 u111 u112 u113 u114 u115 u116 u117 u118 u119 u120 u121 u122 u123 u124 u125 u126 u127 u128 u129 u130 u131 u132 u133 u134 u135 u136 u137 u138 u139 u140 u141 u142 u143 u144 u145 u146 u147 u148 u149 u150 u151 u152 u153 u154 u155 u156 u157 u158 u159 u160 u161 u162 u163 u164 u165 u166 u167 u168 u169 u170 u171 u172 u173 u174 u175 u176 u177 u178 u179 u180 u181 u182 u183 u184 u185 u186 u187 u188 u189 u190 u191 u192 u193 u194 u195 u196 u197 u198 u199 u200 u201 u202 u203 u204 u205 u206 u207 u208 u209 u210 u211 u212 u213 u214 u215 u216 u217 u218 u219:Value}
  (HB:Hid (B=w1.heap.size)) (f0:B<=gT) (e9:B<=gF) (HcT:Hid (t<=cT)) (HcF:Hid (t<=cF)) (f6:2<=n/\n<=16) (f5:1<=t/\t<=3)
  (hA0:Hid (MS B wr0 wr0.heap.size gm gd W H L n t t (.slice (some ⟨gF,0,none⟩) t cF) (.slice none 0 0) (.slice (some ⟨gT,0,none⟩) t cT) fs ts/\za w1 wr0))
  (hP:∀c (a a':Act) w,a.defers=a'.defers->Q (.panic c) a w->Q (.panic c) a' w)
  (G:∀(w2:World),Hid (MS B w2 w2.heap.size gm gd W H L n t t (.slice (some ⟨gF,0,none⟩) t cF) (.slice none 0 0) (.slice (some ⟨gT,0,none⟩) t cT) fs ts/\za w1 w2)->∀(x13 x14 x143 x144 x145 x146 x147 x148 x149 x150 x151 x152 x153 x154 x155 x156 x157 x158 x159 x160 x161 x162 x163 x164 x165 x166 x167 x168 x169 x170 x171 x172 x173 x174 x175 x176 x177 x178 x179 x180 x181 x182 x183 x184 x185 x186 x187 x188 x189 x190 x191 x192 x193 x194 x195 x196 x197 x198 x199 x200 x201 x202 x203 x204 x205:Value),Q (.exit 4) ⟨(u0 :: u1 :: u2 :: u3 :: Value.pointer (some ⟨gm,0,none⟩) :: Value.int .i64 (n:Nat) :: Value.int .i64 (t:Nat) :: u7 :: u8 :: u9 :: u10 :: u11 :: Value.int .i64 (t:Nat) :: x13 :: x14 :: u15 :: u16 :: u17 :: u18 :: u19 :: u20 :: u21 :: u22 :: u23 :: u24 :: u25 :: u26 :: u27 :: u28 :: u29 :: u30 :: u31 :: u32 :: u33 :: u34 :: u35 :: u36 :: u37 :: u38 :: u39 :: u40 :: u41 :: u42 :: u43 :: u44 :: u45 :: u46 :: u47 :: u48 :: u49 :: u50 :: u51 :: u52 :: u53 :: u54 :: u55 :: u56 :: u57 :: u58 :: u59 :: u60 :: u61 :: u62 :: u63 :: u64 :: u65 :: u66 :: u67 :: u68 :: u69 :: u70 :: u71 :: u72 :: u73 :: u74 :: u75 :: u76 :: u77 :: u78 :: u79 :: u80 :: u81 :: u82 :: u83 :: u84 :: u85 :: u86 :: u87 :: u88 :: u89 :: u90 :: u91 :: u92 :: u93 :: u94 :: u95 :: u96 :: u97 :: u98 :: u99 :: u100 :: u101 :: u102 :: u103 :: u104 :: u105 :: u106 :: u107 :: u108 :: u109 :: u110 :: u111 :: u112 :: u113 :: u114 :: u115 :: u116 :: u117 :: u118 :: u119 :: u120 :: u121 :: u122 :: u123 :: u124 :: u125 :: u126 :: u127 :: u128 :: u129 :: u130 :: u131 :: u132 :: u133 :: u134 :: u135 :: u136 :: u137 :: u138 :: u139 :: u140 :: u141 :: u142 :: x143 :: x144 :: x145 :: x146 :: x147 :: x148 :: x149 :: x150 :: x151 :: x152 :: x153 :: x154 :: x155 :: x156 :: x157 :: x158 :: x159 :: x160 :: x161 :: x162 :: x163 :: x164 :: x165 :: x166 :: x167 :: x168 :: x169 :: x170 :: x171 :: x172 :: x173 :: x174 :: x175 :: x176 :: x177 :: x178 :: x179 :: x180 :: x181 :: x182 :: x183 :: x184 :: x185 :: x186 :: x187 :: x188 :: x189 :: x190 :: x191 :: x192 :: x193 :: x194 :: x195 :: x196 :: x197 :: x198 :: x199 :: x200 :: x201 :: x202 :: x203 :: x204 :: x205 :: u206 :: u207 :: u208 :: u209 :: u210 :: u211 :: u212 :: u213 :: u214 :: u215 :: u216 :: u217 :: u218 :: u219 :: []).toArray,[]⟩ w2):
  code12.wp Tryz.prog Q ⟨(u0 :: u1 :: u2 :: u3 :: Value.pointer (some ⟨gm,0,none⟩) :: Value.int .i64 (n:Nat) :: Value.int .i64 (t:Nat) :: u7 :: u8 :: u9 :: u10 :: u11 :: Value.int .i64 0 :: u13 :: u14 :: u15 :: u16 :: u17 :: u18 :: u19 :: u20 :: u21 :: u22 :: u23 :: u24 :: u25 :: u26 :: u27 :: u28 :: u29 :: u30 :: u31 :: u32 :: u33 :: u34 :: u35 :: u36 :: u37 :: u38 :: u39 :: u40 :: u41 :: u42 :: u43 :: u44 :: u45 :: u46 :: u47 :: u48 :: u49 :: u50 :: u51 :: u52 :: u53 :: u54 :: u55 :: u56 :: u57 :: u58 :: u59 :: u60 :: u61 :: u62 :: u63 :: u64 :: u65 :: u66 :: u67 :: u68 :: u69 :: u70 :: u71 :: u72 :: u73 :: u74 :: u75 :: u76 :: u77 :: u78 :: u79 :: u80 :: u81 :: u82 :: u83 :: u84 :: u85 :: u86 :: u87 :: u88 :: u89 :: u90 :: u91 :: u92 :: u93 :: u94 :: u95 :: u96 :: u97 :: u98 :: u99 :: u100 :: u101 :: u102 :: u103 :: u104 :: u105 :: u106 :: u107 :: u108 :: u109 :: u110 :: u111 :: u112 :: u113 :: u114 :: u115 :: u116 :: u117 :: u118 :: u119 :: u120 :: u121 :: u122 :: u123 :: u124 :: u125 :: u126 :: u127 :: u128 :: u129 :: u130 :: u131 :: u132 :: u133 :: u134 :: u135 :: u136 :: u137 :: u138 :: u139 :: u140 :: u141 :: u142 :: u143 :: u144 :: u145 :: u146 :: u147 :: u148 :: u149 :: u150 :: u151 :: u152 :: u153 :: u154 :: u155 :: u156 :: u157 :: u158 :: u159 :: u160 :: u161 :: u162 :: u163 :: u164 :: u165 :: u166 :: u167 :: u168 :: u169 :: u170 :: u171 :: u172 :: u173 :: u174 :: u175 :: u176 :: u177 :: u178 :: u179 :: u180 :: u181 :: u182 :: u183 :: u184 :: u185 :: u186 :: u187 :: u188 :: u189 :: u190 :: u191 :: u192 :: u193 :: u194 :: u195 :: u196 :: u197 :: u198 :: u199 :: u200 :: u201 :: u202 :: u203 :: u204 :: u205 :: u206 :: u207 :: u208 :: u209 :: u210 :: u211 :: u212 :: u213 :: u214 :: u215 :: u216 :: u217 :: u218 :: u219 :: []).toArray,[]⟩ wr0:=by
 have a3:=zh hA0.out.1;have a4:=zh hA0.out.2;clear hA0;have K:=zh G;clear G
 conv=>arg 2;whnf
 go_loopg [12] t (fun gk v wr=>∃(a:Nat),v=.int .i64 a/\a<=t/\gk=t - a/\Hid (MS B wr wr.heap.size gm gd W H L n t t (.slice (some ⟨gF,0,none⟩) t cF) (.slice none 0 0) (.slice (some ⟨gT,0,none⟩) t cT) fs ts/\za w1 wr))
 case atStart=>exact ⟨0,rfl,Em _,rfl,a3.out,a4.out⟩
 clear a3 a4
 case round=>
  obtain ⟨a,rfl,ha,rfl,hA⟩:=hrel;obtain ⟨wA,rfl⟩:∃wA:World,wA=wr:=⟨_,rfl⟩;rcases Ev a t with D | hage
  ·skip
   go_wp2_with fail
   go_loopg [13] t (fun gk v wr=>∃(b:Nat),v=.int .i64 b/\b<=t/\gk=t - b/\Hid (MS B wr wr.heap.size gm gd W H L n t t (.slice (some ⟨gF,0,none⟩) t cF) (.slice none 0 0) (.slice (some ⟨gT,0,none⟩) t cT) fs ts/\za w1 wr))
   case atStart=>exact ⟨0,rfl,Em _,rfl,hA.out⟩
   clear hA
   case round=>
    obtain ⟨b,rfl,hb,rfl,hA⟩:=hrel;obtain ⟨wB,rfl⟩:∃wB:World,wB=wr:=⟨_,rfl⟩;rcases Ev b t with E | hbge
    ·go_wp2_with fail
     go_loopg [14] n (fun gk v wr=>∃(k:Nat),v=.int .i64 k/\k<=n/\gk=n - k/\Hid (MS B wr wr.heap.size gm gd W H L n t t (.slice (some ⟨gF,0,none⟩) t cF) (.slice none 0 0) (.slice (some ⟨gT,0,none⟩) t cT) fs ts/\za w1 wr))
     case atStart=>exact ⟨0,rfl,Em _,rfl,hA.out⟩
     clear hA
     case round=>
      obtain ⟨k,rfl,hk,rfl,hA⟩:=hrel;by_cases O:k<n/\b≠a
      ·obtain ⟨U,d⟩:=O;have I:decide (k<n)=true:=Eb U;have e6:decide ((k:Int)<(n:Int))=true:=Eb (by omega);have a5:((b:Int)==(a:Int))=false:=by rw [El];omega
       have a6:((b:Int) != (a:Int))=true:=by rw [bne_iff_ne];omega
       have d4:(b==a)=false:=by rw [El];exact d
       have d5:(b != a)=true:=by rw [bne_iff_ne];exact d
       have d6:decide (b=a)=false:=Ec d;have e3:=HcT.out;have d9:=HcF.out;have f4:(0:Int)<=(b:Int)/\(b:Int)<(t:Int):=by omega
       have c8:(0:Int)<=(a:Int)/\(a:Int)<(t:Int):=by omega
       have e5:(0:Int)<=(k:Int)/\(k:Int)<(n:Int):=by omega
       have hm:=hA.out.1;have m5:wr.cell? ⟨gm,5,none⟩=some (.slice (some ⟨gT,0,none⟩) t cT):=hm.mz.cell (k:=5) rfl;have m3:wr.cell? ⟨gm,3,none⟩=some (.slice (some ⟨gF,0,none⟩) t cF):=hm.mz.cell (k:=3) rfl;obtain ⟨sb,u1,u2,e0,e1,e2,l1,l2,o1,o2,-,⟨k1,k2⟩,-,-⟩:=hm.td b E;obtain ⟨sa,v1,v2,d0,d1,d2,p1,p2,q1,q2,-,⟨j1,j2⟩,-,-⟩:=hm.td a D;obtain ⟨uf,a9,lf,o,b0,-⟩:=hm.fd a D;have b8:0<lf.length:=by omega
       obtain ⟨gb,cb,rfl,b6,-⟩:=World.ownsRow.form o b8;have T1:wr.cell? ⟨gT,b*3+1,none⟩=some u1:=(hm.T.cellAt (b*3+1) (by omega)).trans e1;have T2:wr.cell? ⟨gT,b*3+2,none⟩=some u2:=(hm.T.cellAt (b*3+2) (by omega)).trans e2;have A1:wr.cell? ⟨gT,a*3+1,none⟩=some v1:=(hm.T.cellAt (a*3+1) (by omega)).trans d1;have A2:wr.cell? ⟨gT,a*3+2,none⟩=some v2:=(hm.T.cellAt (a*3+2) (by omega)).trans d2;have F1:wr.cell? ⟨gF,a,none⟩=some (.slice (some ⟨gb,0,none⟩) lf.length cb):=(hm.F.cellAt a (by omega)).trans a9;have e4:=BE o;have b5:∀j,wr.frozen? ⟨gb,j,none⟩=false:=fun j=>World.ownsRow.frozenAt o j
       have J:∃bo,wr.cell? ⟨gb,k,none⟩=some (.bool bo):=by
        have h1:=World.ownsRow.cellAt o k (by omega);rw [EH,DW (by omega)] at h1;exact ⟨_,h1⟩
       obtain ⟨bo,J⟩:=J;have a1:Hid (∃cs,zl wr gb 4 cs):=own_blkB o;have f2:=zh b0;have b7:(k:Int)<(lf.length:Int):=by omega
       obtain ⟨b1,B1⟩:=hasB (k:Int) o1 (by omega);obtain ⟨b2,B2⟩:=hasB (k:Int) o2 (by omega);obtain ⟨b3,B3⟩:=hasB (k:Int) q1 (by omega);obtain ⟨b4,B4⟩:=hasB (k:Int) q2 (by omega);have V:=zh B1;have a0:=zh B2;have b9:=zh B3;have c0:=zh B4;clear B1 B2 B3 B4 e0 e1 e2 o1 o2 d0 d1 d2 q1 q2 a9 o b0 hm d;go_upto_region 37 with fail;go_cut [180] from 163 to 180 (fun s wx=>(∃bb,s=.bool bb)/\wr=wx)
       case first=>
        go_wp2_with fail
        refine (V.out wr (za.refl _)).mono ?_;rintro e w' ⟨rfl,rfl⟩
        cases b1 with
        | true=>
         go_wp2_with fail
         go_meet;exact ⟨⟨_,rfl⟩,rfl⟩
        | false=>
         go_wp2_with fail
         refine (a0.out wr (za.refl _)).mono ?_;rintro e w' ⟨rfl,rfl⟩
         go_wp2_with fail
         go_meet;exact ⟨⟨_,rfl⟩,rfl⟩
       case rest=>
        obtain ⟨⟨bb,rfl⟩,rfl⟩:=hcut
        cases bb with
        | true=>
         clear I e6 a5 a6 d4 d5 d6 T1 T2 b8 e3
         go_wp2_with fail
         have a2:Hid (∀x,MS B ((wr.drew).setCell ⟨gb,k,none⟩ (.bool x)) ((wr.drew).setCell ⟨gb,k,none⟩ (.bool x)).heap.size gm gd W H L n t t (.slice (some ⟨gF,0,none⟩) t cF) (.slice none 0 0) (.slice (some ⟨gT,0,none⟩) t cT) fs ts/\za w1 ((wr.drew).setCell ⟨gb,k,none⟩ (.bool x))):=fun x=>hA.out.1.stored (k:=k) hA.out.2 HB.out a1.out b6 x
         obtain ⟨csT,M⟩:=own_blkB hA.out.1.T;obtain ⟨csF,a8⟩:=own_blkB hA.out.1.F;obtain ⟨csB,a7⟩:=a1.out;have r5:=SB.rule hA.out.1.mz (by decide) m5;have r3:=SB.rule hA.out.1.mz (by decide) m3;have ra1:=SB.rule M (by decide) A1;have ra2:=SB.rule M (by decide) A2;have rf1:=SB.rule a8 (by decide) F1;have c7:Hid (∀W x,SB wr W->SB wr (W.setCell ⟨gb,k,none⟩ x)):=fun W x h=>h.set a7 x
         clear V a0 m5 m3 A1 A2 F1 M a8 a7;refine r38_wp (n:=n) c8 e5 d9 e4 b7 r5 r3 ra1 ra2 rf1 J b5 b9 c0 c7 (fun c a a' W he h=>hP c a a' W he h) fun b' x181 x182 x183 x184 x185 x186 x187 x188 x189 x190 x191 x192 x193 x194 x195 x196 x197 x198 x199 x200 x201 x202 x203 x204 x205=>?_;have c6:=zh (a2.out b');clear J b5 a2 r5 r3 ra1 ra2 rf1
         go_wp2_with fail
         go_roundg (n - (k+1))
         case measure=>omega
         case rel=>exact ⟨k+1,by go_num,U,rfl,c6.out⟩
        | false=>
         go_wp2_with fail
         go_roundg (n - (k+1))
         case measure=>omega
         case rel=>exact ⟨k+1,by go_num,U,rfl,hA.out⟩
      ·have e8:decide (k<n)=false\/(decide (k<n)=true/\b=a):=by
        by_cases h1:k<n
        ·exact .inr ⟨Eb h1,by by_cases h2:b=a;exact h2;exact absurd ⟨h1,h2⟩ O⟩
        ·exact .inl (Ec h1)
       clear O;rcases e8 with I | ⟨I,d⟩
       ·have e7:¬ k<n:=of_decide_eq_false I
        go_wp2_with fail
        go_roundg (t - (b+1))
        case measure=>omega
        case rel=>exact ⟨b+1,by go_num,E,rfl,hA.out⟩
       ·subst d;have e7:k<n:=of_decide_eq_true I;have a5:((b:Int)==(b:Int))=true:=by simp
        have a6:((b:Int) != (b:Int))=false:=by simp
        go_wp2_with fail
        go_roundg (t - (b+1))
        case measure=>omega
        case rel=>exact ⟨b+1,by go_num,E,rfl,hA.out⟩
    ·have d8:b=t:=by omega
     subst d8;have d7:decide (b<b)=false:=Ec (by omega);clear hbge
     go_wp2_with fail
     go_roundg (b - (a+1))
     case measure=>omega
     case rel=>exact ⟨a+1,by go_num,D,rfl,hA.out⟩
  ·have c9:a=t:=by omega
   subst c9;have d7:decide (a<a)=false:=Ec (by omega);clear hage
   go_wp2_with fail
   exact K.out wA hA _ _ _ _ _ _ _ _ _ _ _ _ _ _ _ _ _ _ _ _ _ _ _ _ _ _ _ _ _ _ _ _ _ _ _ _ _ _ _ _ _ _ _ _ _ _ _ _ _ _ _ _ _ _ _ _ _ _ _ _ _ _ _ _ _
theorem allocs_ext:∀(os:List Obj) (w:World),za w (os.foldl World.alloc w)
 | [],w=>za.refl w
 | o :: os,w=>((za.refl w).alloc o).trans (allocs_ext os (w.alloc o))
theorem allocs_at:∀(os:List Obj) (w:World) (i:Nat) (o:Obj),os[i]?=some o->(os.foldl World.alloc w).heap[w.heap.size+i]?=some o
 | o :: os,w,0,o',h=>by
  have:o=o':=by simpa using h
  subst this;exact ((allocs_ext os (w.alloc o)).block _ (by simp)).trans (EL w o)
 | o :: os,w,i+1,o',h=>by
  have:=allocs_at os (w.alloc o) i o' (by simpa using h);rw [show w.heap.size+(i+1)=(w.alloc o).heap.size+i from by simp;omega];exact this
theorem fin_allocs {P:World->Prop} (w:World) (os:List Obj) (h:∀W,za w W->(∀(i:Nat) o,os[i]?=some o->W.heap[w.heap.size+i]?=some o)->P W):P (os.foldl World.alloc w):=h _ (allocs_ext os w) (fun i o d=>allocs_at os w i o d)
theorem madeN_calls {ls:List (List Int)} (w:World) (hl:Aa w ok v ls) (F0:ls.length<=9223372036854775807) (r8:∀l∈ls,l.length<=9223372036854775807):
  Calls Tryz.prog 26 #[v] w (AD w):=by
 have r6:=hl.bound;have E3:=zh r6;obtain ⟨vs,⟨A,c,rfl,hc,hr⟩,he⟩:=r6;have HR:=zh hr;have HE:=zh he;clear hl hr he;have k6:=zh r8;clear r8;obtain ⟨iI,ji,jz0,jz1,jz2⟩:=info_parts Tryz.infoInt;have JF:=zh ji;have JZ0:=zh jz0;have JZ1:=zh jz1;have JZ2:=zh jz2;clear ji jz0 jz1 jz2;obtain ⟨iB,bi,bz0,bz1,bz2⟩:=info_parts Tryz.infoBool;have BF:=zh bi;have BZ0:=zh bz0;have BZ1:=zh bz1;have BZ2:=zh bz2;clear bi bz0 bz1 bz2;obtain ⟨iT,ti,tz0,tz1,tz2⟩:=info_parts Tryz.infoTask;have TF:=zh ti;have TZ0:=zh tz0;have TZ1:=zh tz1;have TZ2:=zh tz2;clear ti tz0 tz1 tz2;obtain ⟨iL,li,lz0,lz1,lz2⟩:=info_parts Tryz.infoBools;have LF:=zh li;have LZ0:=zh lz0;have LZ1:=zh lz1;have LZ2:=zh lz2;clear li lz0 lz1 lz2
 go_enter Tryz.func26,Tryz.ntmps26
 go_upto_region 1 with fail;generalize h8:w.alloc (.cells #[.int .i64 0,.int .i64 0,.int .i64 0,.slice none 0 0,.slice none 0 0,.slice none 0 0] 32)=w1;have l6:za w w1:=by rw [<-h8];exact (za.refl w).alloc _
 have c7:Hid (zl w1 w.heap.size 32 #[.int .i64 0,.int .i64 0,.int .i64 0,.slice none 0 0,.slice none 0 0,.slice none 0 0]/\w1.heap.size=w.heap.size+1):=by rw [<-h8];exact ⟨zl.new _ _ _ rfl,by simp⟩
 clear h8;have a9:=zh l6;obtain ⟨B,hB⟩:=Fd w1.heap.size;obtain ⟨gd,d4⟩:=Fd w1.heap.size;have HB:=zh hB;have e0:=zh d4;have n8:zT B (w1.alloc (.cells #[.slice none 0 0,.int .i64 0] 118)) gd:=⟨by omega,_,0,[],zl.new _ _ _ d4,zk.nil _ _,by simp,by simp⟩;have t8:=zh n8;clear n8 l6
 go_upto_if 20 with fail
 rw [<-d4];go_cut [] (fun wx=>Hid (za w1 wx/\zT B wx gd))
 case first=>
  by_cases D:ls.length=0
  ·have g9:decide ((0:Int)<(ls.length:Int))=false:=by rw [D];rfl
   have d5:decide (0<ls.length)=false:=by rw [D];rfl
   have f4:¬ (0<ls.length):=by omega
   have HZ:=zh D;clear D
   go_wp2_with fail
   go_meet;exact ⟨(za.refl _).alloc _,t8.out⟩
  ·have hp:0<ls.length:=by omega
   have g9:decide ((0:Int)<(ls.length:Int))=true:=Eb (by omega);have d5:decide (0<ls.length)=true:=Eb hp;obtain ⟨b0,o0,u0,rfl,s2,a7,d8⟩:=AX HR.out HE.out hp hp;have HU:=zh d8;obtain ⟨A0,c0,rfl,n6,-⟩:=d8;rw [Nat.add_zero] at a7;have q0:=za.rule a7;have f2:za w (w1.alloc (.cells #[.slice none 0 0,.int .i64 0] 118)):=a9.out.alloc _;clear D a7
   go_wp2_with fail
   go_meet;have h1:=f2;refine ⟨(za.refl _).alloc _,by omega,_,0,ls[0],zl.new _ _ _ d4,?_,k6.out _ (DZ hp),Em _⟩;exact (zk.below HU.out (a9.out.alloc _)).weaken fun b hb=>by have:=hb.2;have:=c7.out.2;omega
 case rest=>
  have g4:B<=w1.heap.size:=by omega
  clear hB d4;obtain ⟨i1,n9⟩:=hcut.out;have t9:=zh n9;clear hcut n9
  go_wp2_with fail
  refine (zQ 3 t9.out (by omega) (by omega)).mono ?_;rintro e w3 ⟨x,rfl,F1,F2,o3,p9⟩;have i2:za w1 w3:=Below.grown i1 p9 i1.size (fun k U=>by injection U with U;have:=e0.out;omega);have v4:=zh o3;clear o3 p9 i1
  go_wp2_with fail
  refine (zQ 4 v4.out (by omega) (by omega)).mono ?_;rintro e w4 ⟨y,rfl,F3,F4,o4,q4⟩;have i3:za w1 w4:=Below.grown i2 q4 i2.size (fun k U=>by injection U with U;have:=e0.out;omega);have v5:=zh o4;clear o4 q4 i2
  go_wp2_with fail
  refine (zQ 2 v5.out (by omega) (by omega)).mono ?_;rintro e w5 ⟨z,rfl,F6,F7,o5,q5⟩;have a8:za w1 w5:=Below.grown i3 q5 i3.size (fun k U=>by injection U with U;have:=e0.out;omega);have v6:=zh o5;clear o5 q5 i3;have k7:Hid (zl (w5.alloc (.cells #[.int .i64 (2+x),.int .i64 (1+y),.int .i64 (1+z),.slice none 0 0,.slice none 0 0,.slice none 0 0] 32)) w5.heap.size 32 #[.int .i64 (2+x),.int .i64 (1+y),.int .i64 (1+z),.slice none 0 0,.slice none 0 0,.slice none 0 0]):=zl.new _ _ _ rfl;obtain ⟨gm,e8⟩:=Fd w5.heap.size;rw [<-e8] at k7;have g1:=zh e8;have v8:=zh a8
  go_upto_if 39 with fail
  rw [<-e8];clear e8;go_cut [] (fun wx=>Hid (za w1 wx/\zT B wx gd/\∃W H L:Int,(2<=W/\W<=4)/\(1<=H/\H<=4)/\(L=1\/(L=2/\W<=3/\H<=2))/\zl wx gm 32 #[.int .i64 W,.int .i64 H,.int .i64 L,.slice none 0 0,.slice none 0 0,.slice none 0 0]))
  case first=>
   have a5:=k7.out;generalize i0:w5.alloc (.cells #[.int .i64 (2+x),.int .i64 (1+y),.int .i64 (1+z),.slice none 0 0,.slice none 0 0,.slice none 0 0] 32)=w6 at*;have i4:za w1 w6:=by rw [<-i0];exact a8.alloc _
   have j1:Hid (zT B w6 gd):=by rw [<-i0];exact v6.out.ext ((za.refl _).alloc _) (Ea g4 a8.size)
   clear i0;have m0:w6.cell? ⟨gm,0,none⟩=some (.int .i64 (2+x)):=a5.cell (k:=0) rfl;have m1:w6.cell? ⟨gm,1,none⟩=some (.int .i64 (1+y)):=a5.cell (k:=1) rfl;have m2:w6.cell? ⟨gm,2,none⟩=some (.int .i64 (1+z)):=a5.cell (k:=2) rfl;have hf:=fun k=>a5.frozen k
   have f7:=zh a5;clear a5;by_cases d9:z=1
   ·have ht:((1+z:Int)==2)=true:=by rw [beq_iff_eq];omega
    have C1:decide (1+z=2)=true:=Eb (by omega);have h6:(z==1)=true:=by rw [beq_iff_eq];exact d9
    have A7:=zh d9;clear d9
    go_wp2_with fail
    go_meet;have e7:B<=gm:=by have:=g1.out;have:=a8.size;omega
    have q8:w1.heap.size<=gm:=by have:=g1.out;have:=a8.size;omega
    have p7:=j1.out;refine ⟨(i4.setCell (p:=⟨gm,0,none⟩) q8 _).setCell (p:=⟨gm,1,none⟩) q8 _,?_,min (2+x) 3,min (1+y) 2,1+z,by omega,by omega,.inr ⟨by have:=A7.out;omega,by omega,by omega⟩,?_⟩
    ·obtain ⟨cs,hb⟩:=p7.blk;have s1:gd≠gm:=zl.ne_ hb (f7.out) (by decide);exact p7.keep (((Below.refl B w6).setCell (p:=⟨gm,0,none⟩) e7 _).setCell (p:=⟨gm,1,none⟩) e7 _) ((Eh _ ⟨gm,1,none⟩ _ gd s1).trans (Eh _ ⟨gm,0,none⟩ _ gd s1))
    ·exact ((f7.out).set (k:=0) _).set (k:=1) _
   ·have ht:((1+z:Int)==2)=false:=by rw [El];omega
    have C1:decide (1+z=2)=false:=Ec (by omega);have h6:(z==1)=false:=by rw [El];exact d9
    have t4:Hid (1+z=1):=by show _=_;omega
    clear d9
    go_wp2_with fail
    go_meet;exact ⟨i4,j1.out,2+x,1+y,1+z,by omega,by omega,.inl t4.out,f7.out⟩
  case rest=>
   obtain ⟨i5,o6,W,H,L,hW,hH,hL,M⟩:=hcut.out;clear hcut;have p5:=dims hW hH hL;have l0:Hid ((2<=W/\W<=4)/\(1<=H/\H<=4)/\(L=1\/(L=2/\W<=3/\H<=2))):=⟨hW,hH,hL⟩;have m0:wc.cell? ⟨gm,0,none⟩=some (.int .i64 W):=M.cell (k:=0) rfl;have m1:wc.cell? ⟨gm,1,none⟩=some (.int .i64 H):=M.cell (k:=1) rfl;have m2:wc.cell? ⟨gm,2,none⟩=some (.int .i64 L):=M.cell (k:=2) rfl;have m3:wc.cell? ⟨gm,3,none⟩=some (.slice none 0 0):=M.cell (k:=3) rfl;have m4:wc.cell? ⟨gm,4,none⟩=some (.slice none 0 0):=M.cell (k:=4) rfl;have m5:wc.cell? ⟨gm,5,none⟩=some (.slice none 0 0):=M.cell (k:=5) rfl;have x4:=zh M;have v7:=zh o6;clear M o6 hW hH hL a8
   go_wp2_with fail
   refine (Ai W H L _ _ _ _ (by omega) (by omega)).mono ?_;rintro e w8 ⟨rfl,n5⟩;have a4:za wc w8:=n5;have f3:za w1 w8:=i5.trans a4;have j2:Hid (zT B w8 gd):=v7.out.ext a4 (Ea g4 i5.size);have x5:Hid (zl w8 gm 32 #[.int .i64 W,.int .i64 H,.int .i64 L,.slice none 0 0,.slice none 0 0,.slice none 0 0]):=x4.out.ext a4;obtain ⟨n,hn⟩:∃n:Nat,(n:Int)=W*H*L:=⟨(W*H*L).toNat,by omega⟩;rw [<-hn];have HN:=zh hn;have e9:2<=n/\n<=16:=by omega
   clear hn p5 m0 m1 m2 m3 m4 m5 n5 a4 i5
   go_wp2_with fail
   refine (zQ 3 j2.out (by omega) (by omega)).mono ?_;rintro e w9 ⟨z9,rfl,t5,t6,o7,g5⟩;obtain ⟨many,d7⟩:∃many:Nat,(many:Int)=1+z9:=⟨(1+z9).toNat,by omega⟩;have r9:1<=many/\many<=3:=by omega
   have H9:Hid (MS B w9 w9.heap.size gm gd W H L n 0 0 (.slice none 0 0) (.slice none 0 0) (.slice none 0 0) [] []):=by
    have e7:B<=gm:=by have:=g1.out;have:=v8.out.size;omega
    have h0:MS B w8 w8.heap.size gm gd W H L n 0 0 (.slice none 0 0) (.slice none 0 0) (.slice none 0 0) [] []:=⟨Ea g4 f3.size,DY _,x5.out,e7,j2.out,World.ownsRow_nil _ _ _ _,World.ownsRow_nil _ _ _ _,fun j hj=>by omega,fun j hj=>by omega⟩;have h1:=h0.drawn o7 g5;exact h1.ext (za.refl _)
   have t3:za w1 w9:=Below.grown f3 g5 f3.size (fun k U=>by injection U with U;have:=e0.out;omega);have l3:=zh t3;clear o7 g5 t3 f3
   go_wp2_with fail
   rw [<-d7];clear d7 t5 t6
   go_loopg [7] many (fun gk v wr=>∃(t:Nat) (vF vT:Value) (fs ts:List Value),v=.int .i64 t/\t<=many/\gk=many - t/\Hid (MS B wr wr.heap.size gm gd W H L n t t vF (.slice none 0 0) vT fs ts/\za w1 wr))
   case atStart=>exact ⟨0,_,_,[],[],rfl,Em _,rfl,H9.out,l3.out⟩
   clear H9 l3
   case round=>
    obtain ⟨t,vF,vT,fs,ts,rfl,ht,rfl,E⟩:=hrel;obtain ⟨wR,rfl⟩:∃wR:World,wR=wr:=⟨_,rfl⟩;rcases Ev t many with h4 | hge
    ·skip
     have h5:B<=wR.heap.size:=E.out.1.hB;obtain ⟨ge,hge⟩:=Fd wR.heap.size;have b6:=zh hge;have j4:Hid (zT B (wR.alloc (.cells #[.slice none 0 0,.int .i64 0] 118)) ge):=⟨by omega,_,0,[],zl.new _ _ _ hge,zk.nil _ _,by simp,by simp⟩;have f8:Hid (zl (wR.alloc (.cells #[.slice none 0 0,.int .i64 0] 118)) ge 118 #[.slice none 0 0,.int .i64 0]):=zl.new _ _ _ hge;have f9:Hid (za wR (wR.alloc (.cells #[.slice none 0 0,.int .i64 0] 118))):=(za.refl _).alloc _
     go_upto_if 64 with fail
     rw [<-hge];clear hge;generalize wR.alloc _=wa at*;go_cut [] (fun wx=>Hid (za wR wx/\zT B wx ge))
     case first=>
      by_cases D:t+1<ls.length
      ·have g9:decide ((t:Int)+1<(ls.length:Int))=true:=Eb (by omega);have d5:decide (t+1<ls.length)=true:=Eb D;have f4:(t:Int)+1<(ls.length:Int):=by omega
       obtain ⟨b0,o0,u0,rfl,s2,a7,d8⟩:=AX HR.out HE.out D D;have HU:=zh d8;obtain ⟨A0,c0,rfl,n6,-⟩:=d8;have q0:=za.rule a7;have s9:za w wR:=a9.out.trans E.out.2;have f2:za w wa:=s9.trans f9.out;have A6:=zh f2;have E5:wa.cell? ⟨ge,0,none⟩=some (.slice none 0 0):=f8.out.cell (k:=0) rfl;have E7:wa.frozen? ⟨ge,0,none⟩=false:=f8.out.frozen 0;clear a7 s9
       go_wp2_with fail
       go_meet;have B4:wR.heap.size<=ge:=by have:=b6.out;omega
       have B5:w.heap.size<=ge:=by have:=b6.out;have:=(Below.size (a9.out.trans E.out.2));omega
       refine ⟨f9.out.setCell (p:=⟨ge,0,none⟩) B4 _,by have:=b6.out;omega,_,0,ls[t+1],f8.out.set (k:=0) _,?_,k6.out _ (DZ D),Em _⟩;exact (zk.keep HU.out (Ar.of_below (A6.out.setCell (p:=⟨ge,0,none⟩) B5 _))).weaken fun b hb=>by have:=hb.2;have:=c7.out.2;have:=HB.out;omega
      ·have g9:decide ((t:Int)+1<(ls.length:Int))=false:=Ec (by omega);have d5:decide (t+1<ls.length)=false:=Ec D;have f4:¬ (t:Int)+1<(ls.length:Int):=by omega
       have HZ:=zh D;clear D
       go_wp2_with fail
       go_meet;exact ⟨f9.out,j4.out⟩
     case rest=>
      obtain ⟨i6,p4⟩:=hcut.out;have g3:=zh i6;have j3:=zh p4;clear hcut p4 j4;obtain ⟨w6,rfl⟩:∃w6:World,w6=wc:=⟨_,rfl⟩;have A8:B<=w6.heap.size:=Ea h5 i6.size;have B6:ge<w6.heap.size:=j3.out.lt;have h6:t<3:=by omega
      have s3:(t:Int)<3:=by omega
      have s4:(0:Int)<=(t:Int):=by omega
      clear i6
      go_wp2_with fail
      refine r16_wp j3 A8 B6 h6 s3 s4 e9 ?hQ16
      case hQ16=>
       intro v W hJ _;obtain ⟨s,g7,g11,gt,x1,x2,C3,C4,s7,f5,n1⟩:=hJ.fin h5 g3.out.size (by have:=b6.out;omega);have l7:za wR W:=Below.grown g3.out hJ.gb g3.out.size (fun k U=>by injection U with U;have:=b6.out;omega);have e2:=zh n1;have j9:=zh l7;clear hJ n1 l7 C3 C4 s7;rw [f5];clear f5
       go_wp2_with fail
       refine (zQ 3 e2.out.dr (by omega) (by omega)).mono ?_;rintro e wb ⟨z,rfl,t4,F5,o8,g6⟩;have b8:=zh (e2.out.drawn o8 g6);have b5:=zh (e2.out.drawnExt j9.out g6);clear o8 g6 e2 j9
       go_upto_if 88 with fail
       go_cut [] (fun wx=>∃(u1:Value) (l1:List Int),Hid (R1 B wx wR.heap.size ge gt n s u1 (.slice (some ⟨g11,0,none⟩) 1 1) l1 [x2]/\za wR wx/\l1.length<=2))
       case first=>
        by_cases D:z=0
        ·have i7:(z==0)=true:=by rw [beq_iff_eq];exact D
         have HZ:=zh D;clear D
         go_wp2_with fail
         refine r18_wp b8 b5 e9 (fun c a a' W he h=>(show a'.defers=[]/\AD w (.panicked c) W from ⟨he ▸ (show a.defers=[]/\AD w (.panicked c) W from h).1,(show a.defers=[]/\AD w (.panicked c) W from h).2⟩)) fun u1 l1 W h9 x89 x90 x91 x92 x93 x94 x95 x96=>?_
         go_wp2_with fail
         go_meet;exact ⟨_,_,h9⟩
        ·have i7:(z==0)=false:=by rw [El];exact D
         have HZ:=zh D;clear D
         go_wp2_with fail
         go_meet;exact ⟨_,[x1],b8.out,b5.out,by simp⟩
       case rest=>
        obtain ⟨u1,l1,f0⟩:=hcut;have e3:=zh f0.out.1;have j6:=zh f0.out.2.1;have k4:=zh f0.out.2.2;clear f0
        go_wp2_with fail
        refine (zQ 3 e3.out.dr (by omega) (by omega)).mono ?_;rintro e wq ⟨zz,rfl,E0,E1,p6,g8⟩;have b9:=zh (e3.out.drawn p6 g8);have b3:=zh (e3.out.drawnExt j6.out g8);clear p6 g8 e3 j6 b8 b5
        go_upto_if 99 with fail
        go_cut [] (fun wx=>∃(u2:Value) (l2:List Int),Hid (R1 B wx wR.heap.size ge gt n s u1 u2 l1 l2/\za wR wx/\l2.length<=2))
        case first=>
         by_cases D:zz=0
         ·have i7:(zz==0)=true:=by rw [beq_iff_eq];exact D
          have HZ:=zh D;clear D
          go_wp2_with fail
          refine r20_wp b9 b3 e9 (fun c a a' W he h=>(show a'.defers=[]/\AD w (.panicked c) W from ⟨he ▸ (show a.defers=[]/\AD w (.panicked c) W from h).1,(show a.defers=[]/\AD w (.panicked c) W from h).2⟩)) fun u2 l2 W h9 x100 x101 x102 x103 x104 x105 x106 x107=>?_
          go_wp2_with fail
          go_meet;exact ⟨_,_,h9⟩
         ·have i7:(zz==0)=false:=by rw [El];exact D
          have HZ:=zh D;clear D
          go_wp2_with fail
          go_meet;exact ⟨_,[x2],b9.out,b3.out,by simp⟩
        case rest=>
         obtain ⟨u2,l2,f1⟩:=hcut;have A3:=zh f1.out.1;have j8:=zh f1.out.2.1;have k5:=zh f1.out.2.2;obtain ⟨w7,rfl⟩:∃w7:World,w7=wc:=⟨_,rfl⟩;have i9:Hid (OwnB w7 w7.heap.size (.slice none 0 0) []):=World.ownsRow_nil _ _ _ _;clear f1 b9 b3
         go_wp2_with fail
         go_loopg [10,11] n (fun gk vf v wr=>∃(k:Nat) (lf:List Bool),v=.int .i64 k/\k<=n/\gk=n - k/\lf.length=k/\Hid (R1 B wr wR.heap.size ge gt n s u1 u2 l1 l2/\za wR wr/\OwnB wr w7.heap.size vf lf/\w7.heap.size<=wr.heap.size))
         case atStart=>exact ⟨0,[],rfl,Em _,rfl,rfl,A3.out,j8.out,i9.out,DY _⟩
         clear i9
         case round=>
          obtain ⟨k,lf,rfl,U,rfl,r7,hQ⟩:=hrel;have e4:=zh j8.out.size;have e1:=zh r7;have B7:lf.length<=16:=by omega
          clear r7;rcases Ev k n with d6 | hge2
          ·skip
           go_wp2_with fail
           refine (zQ 6 hQ.out.1.dr (by omega) (by omega)).mono ?_;rintro e wd ⟨x,rfl,f2,i4,o9,Q⟩;have a2:=zh (hQ.out.1.drawn o9 Q);have g0:=zh (hQ.out.1.drawnExt hQ.out.2.1 Q)
           have a1:Hid (OwnB wd w7.heap.size u10 lf):=AP hQ.out.2.2.1 fun g G=>Q.block g (World.ownsRow.lt hQ.out.2.2.1 g G).2 (fun e=>by
            obtain ⟨cs,hb⟩:=hQ.out.1.dr.blk;injection e with e;subst e;exact zf hQ.out.2.2.1 hb (by decide) G)
           have B9:w7.heap.size<=wd.heap.size:=Ea hQ.out.2.2.2 Q.size;clear o9 Q;obtain ⟨Af,cf,rfl,E6,-⟩:=a1.out.bools;have E9:(0:Int)<=(k:Int):=by omega
           have D1:wd.cell? ⟨gt,1,none⟩=some u1:=a2.out.tk.cell (k:=1) rfl;have D2:wd.cell? ⟨gt,2,none⟩=some u2:=a2.out.tk.cell (k:=2) rfl;by_cases hx:0<x
           ·have C5:decide (0<x)=true:=Eb hx
            go_wp2_with (at_builtin;refine wpList_append_own_at _ rfl _ _ 29 rfl w7.heap.size 4 iB (.bool false) 1 1 Tryz.underlying29 BF.out BZ0.out BZ1.out BZ2.out rfl (by decide) (.slice Af lf.length cf) lf.length _ rfl (World.ownsRow.alloc a1.out _) ⟨wd.heap.size,0,none⟩ 1 1 [.bool true] rfl rfl (cell_one_new _ _ _) (by simp [Value.oneCell']) (by unfold maxLen;omega) (by omega) (by simp;omega) ?_)
            intro v' w9 d G _ K;obtain ⟨V,O⟩:=a2.out.grownB a1.out e4.out G;have c6:=zh V;have b4:Hid (za wR w9):=Below.trans g0.out O;have c8:Hid (w7.heap.size<=w9.heap.size):=by have:=G.size;simp at this;show _<=_;omega
            have b7:Hid (OwnB w9 w7.heap.size v' (lf++[true])):=OwnB.app d;clear V O d G K
            go_wp2_with fail
            go_roundg (n - (k+1))
            case measure=>omega
            case rel=>exact ⟨k+1,lf++[true],by go_num,d6,rfl,by have:=e1.out;simp;omega,c6.out,b4.out,b7.out,c8.out⟩
           ·have C5:decide (0<x)=false:=Ec hx
            go_wp2_with fail
            refine (AK (k:Int) wd (Bv.of_own a2.out.o1) (by have:=k4.out;omega)).mono ?_;rintro e w' ⟨rfl,rfl⟩;generalize decide ((k:Int)∈l1)=b1
            cases b1 with
            | true=>
             go_wp2_with (at_builtin;refine wpList_append_own_at _ rfl _ _ 29 rfl w7.heap.size 4 iB (.bool false) 1 1 Tryz.underlying29 BF.out BZ0.out BZ1.out BZ2.out rfl (by decide) (.slice Af lf.length cf) lf.length _ rfl (World.ownsRow.alloc a1.out _) ⟨wd.heap.size,0,none⟩ 1 1 [.bool true] rfl rfl (cell_one_new _ _ _) (by simp [Value.oneCell']) (by unfold maxLen;omega) (by omega) (by simp;omega) ?_)
             intro v' w9 d G _ K;obtain ⟨V,O⟩:=a2.out.grownB a1.out e4.out G;have c6:=zh V;have b4:Hid (za wR w9):=Below.trans g0.out O;have c8:Hid (w7.heap.size<=w9.heap.size):=by have:=G.size;simp at this;show _<=_;omega
             have b7:Hid (OwnB w9 w7.heap.size v' (lf++[true])):=OwnB.app d;clear V O d G K
             go_wp2_with fail
             go_roundg (n - (k+1))
             case measure=>omega
             case rel=>exact ⟨k+1,lf++[true],by go_num,d6,rfl,by have:=e1.out;simp;omega,c6.out,b4.out,b7.out,c8.out⟩
            | false=>
             go_wp2_with fail
             refine (AK (k:Int) wd (Bv.of_own a2.out.o2) (by have:=k5.out;omega)).mono ?_;rintro e w' ⟨rfl,rfl⟩;generalize decide ((k:Int)∈l2)=b2
             go_wp2_with (at_builtin;refine wpList_append_own_at _ rfl _ _ 29 rfl w7.heap.size 4 iB (.bool false) 1 1 Tryz.underlying29 BF.out BZ0.out BZ1.out BZ2.out rfl (by decide) (.slice Af lf.length cf) lf.length _ rfl (World.ownsRow.alloc a1.out _) ⟨wd.heap.size,0,none⟩ 1 1 [.bool b2] rfl rfl (cell_one_new _ _ _) (by simp [Value.oneCell']) (by unfold maxLen;omega) (by omega) (by simp;omega) ?_)
             intro v' w9 d G _ K;obtain ⟨V,O⟩:=a2.out.grownB a1.out e4.out G;have c6:=zh V;have b4:Hid (za wR w9):=Below.trans g0.out O;have c8:Hid (w7.heap.size<=w9.heap.size):=by have:=G.size;simp at this;show _<=_;omega
             have b7:Hid (OwnB w9 w7.heap.size v' (lf++[b2])):=OwnB.app d;clear V O d G K
             go_wp2_with fail
             go_roundg (n - (k+1))
             case measure=>omega
             case rel=>exact ⟨k+1,lf++[b2],by go_num,d6,rfl,by have:=e1.out;simp;omega,c6.out,b4.out,b7.out,c8.out⟩
          ·skip
           have r5:k=n:=by omega
           have w0:=zh r5;have D3:decide (k<n)=false:=Ec (by omega);have D4:decide ((k:Int)<(n:Int))=false:=Ec (by omega);have D5:¬ k<n:=by omega
           clear r5 hge2;have e5:=E.out.1.ext hQ.out.2.1;have m5:wr.cell? ⟨gm,5,none⟩=some vT:=e5.mz.cell (k:=5) rfl;have hf:=fun j=>e5.mz.frozen j
           have c9:∀j,wr.frozen? ⟨gm,j,none⟩=false:=hf;obtain ⟨A1,c1,rfl,-⟩:=AL hQ.out.1.o1;obtain ⟨A2,c2,rfl,-⟩:=AL hQ.out.1.o2;have t0:wr.cell? ⟨gt,0,none⟩=some (.string s):=hQ.out.1.tk.cell (k:=0) rfl;have t1:wr.cell? ⟨gt,1,none⟩=some (.slice A1 l1.length c1):=hQ.out.1.tk.cell (k:=1) rfl;have t2:wr.cell? ⟨gt,2,none⟩=some (.slice A2 l2.length c2):=hQ.out.1.tk.cell (k:=2) rfl;have a0:=zh e5;clear e5 hf
           go_wp2_with (at_builtin;refine wpList_append_own_at _ rfl _ _ 30 rfl B 87 iT (.agg #[.string ⟨#[]⟩,.slice none 0 0,.slice none 0 0]) 3 64 Tryz.underlying30 TF.out TZ0.out TZ1.out TZ2.out rfl (by decide) vT t _ rfl (a0.out.T.alloc _) ⟨wr.heap.size,0,none⟩ 1 1 [.string s,.slice A1 l1.length c1,.slice A2 l2.length c2] rfl rfl (cells3n _ _ _ _ _) (by simp [Value.oneCell']) (by unfold maxLen;omega) (by omega) (by have:=a0.out.hB;simp;omega) ?_)
           intro v' w9 d G _ K;obtain ⟨gv,cv,rfl,-,-⟩:=World.ownsRow.form d (by omega);obtain ⟨l8,n0,n3⟩:=a0.out.end1 hQ.out.1 k4.out k5.out hQ.out.2.2.1 d G;have o:w9.heap[gm]?=wr.heap[gm]?:=(G.block gm (by have:=zc a0.out.mz;simp;omega) (fun e=>zf a0.out.T a0.out.mz (by decide) e.symm)).trans (Er _ _ _ (zc a0.out.mz));have n7:w9.cell? ⟨gm,5,none⟩=some vT:=(En (a:=⟨gm,5,none⟩) o).trans m5;have p8:w9.frozen? ⟨gm,5,none⟩=false:=(Ex (a:=⟨gm,5,none⟩) o).trans (c9 5);have I:=zh l8;have k8:=zh n0;have j5:Hid (za w1 (w9.setCell ⟨gm,5,none⟩ (.slice (some ⟨gv,0,none⟩) (t+1) cv))):=Below.trans (za.trans E.out.2 hQ.out.2.1) (HB.out ▸ n3);clear l8 n0 n3 d G K o m5 c9 t0 t1 t2;go_upto_region 27 with fail;clear n7 p8;generalize w9.setCell ⟨gm,5,none⟩ (.slice (some ⟨gv,0,none⟩) (t+1) cv)=wv at*;obtain ⟨Af,cf,rfl,-,-⟩:=k8.out.bools;have m3:wv.cell? ⟨gm,3,none⟩=some vF:=I.out.mz.cell (k:=3) rfl;have c9:∀j,wv.frozen? ⟨gm,j,none⟩=false:=fun j=>I.out.mz.frozen j
           have x0:Hid (∀g,(Value.slice Af lf.length cf).ownBlock=some g->g<wr.heap.size):=fun g G=>(World.ownsRow.lt hQ.out.2.2.1 g G).2
           go_wp2_with (at_builtin;refine wpList_append_own_at _ rfl _ _ 28 rfl B 29 iL (.slice none 0 0) 1 24 Tryz.underlying28 LF.out LZ0.out LZ1.out LZ2.out rfl (by decide) vF t _ rfl (I.out.F.alloc _) ⟨wv.heap.size,0,none⟩ 1 1 [.slice Af lf.length cf] rfl rfl (cell_one_new _ _ _) (by simp [Value.oneCell']) (by unfold maxLen;omega) (by omega) (by have:=I.out.hB;simp;omega) ?_)
           intro v2 w9 d G _ K;obtain ⟨gv2,cv2,rfl,-,-⟩:=World.ownsRow.form d (by omega);obtain ⟨l9,n4⟩:=I.out.end2 k8.out (e1.out.trans w0.out) (Ea h5 e4.out) x0.out d G;have o:w9.heap[gm]?=wv.heap[gm]?:=(G.block gm (by have:=zc I.out.mz;simp;omega) (fun e=>zf I.out.F I.out.mz (by decide) e.symm)).trans (Er _ _ _ (zc I.out.mz));have n7:w9.cell? ⟨gm,3,none⟩=some vF:=(En (a:=⟨gm,3,none⟩) o).trans m3;have p8:w9.frozen? ⟨gm,3,none⟩=false:=(Ex (a:=⟨gm,3,none⟩) o).trans (c9 3);have x3:=zh l9;have j7:Hid (za w1 (w9.setCell ⟨gm,3,none⟩ (.slice (some ⟨gv2,0,none⟩) (t+1) cv2))):=Below.trans j5.out (HB.out ▸ n4);clear l9 n4 d G K o m3 c9
           go_wp2_with fail
           go_roundg (many - (t+1))
           case measure=>omega
           case rel=>exact ⟨t+1,_,_,_,_,by go_num,h4,rfl,x3.out,j7.out⟩
    ·skip
     have C2:t=many:=by omega
     subst C2;have D8:decide (t<t)=false:=Ec (by omega);have l5:0<t:=by omega
     obtain ⟨gT,cT,rfl,q7,-⟩:=World.ownsRow.form E.out.1.T l5;obtain ⟨gF,cF,rfl,q6,-⟩:=World.ownsRow.form E.out.1.F l5;have HcT:=zh (BE E.out.1.T);have HcF:=zh (BE E.out.1.F);clear hge;have m6:=zh (E.out.1);have n2:=zh (E.out.2);clear E
     go_wp2_with fail
     have m8:Hid (MS B wR wR.heap.size gm gd W H L n t t (.slice (some ⟨gF,0,none⟩) t cF) (.slice none 0 0) (.slice (some ⟨gT,0,none⟩) t cT) fs ts/\za w1 wR):=⟨m6.out,n2.out⟩;clear m6 n2;refine loop12_wp HB q7 q6 HcT HcF e9 r9 m8 (fun c a a' W he h=>(show a'.defers=[]/\AD w (.panicked c) W from ⟨he ▸ (show a.defers=[]/\AD w (.panicked c) W from h).1,(show a.defers=[]/\AD w (.panicked c) W from h).2⟩)) fun wA hA x13 x14 x143 x144 x145 x146 x147 x148 x149 x150 x151 x152 x153 x154 x155 x156 x157 x158 x159 x160 x161 x162 x163 x164 x165 x166 x167 x168 x169 x170 x171 x172 x173 x174 x175 x176 x177 x178 x179 x180 x181 x182 x183 x184 x185 x186 x187 x188 x189 x190 x191 x192 x193 x194 x195 x196 x197 x198 x199 x200 x201 x202 x203 x204 x205=>?_;clear m8;obtain ⟨a,B3⟩:=Fd t;subst B3
     go_wp2_with fail
     have hA0:=hA.out;obtain ⟨S,hS⟩:=Fd wA.heap.size;have k9:Hid (RU w1 B wA S gm gd W H L n a a (.slice (some ⟨gF,0,none⟩) a cF) (.slice none 0 0) (.slice (some ⟨gT,0,none⟩) a cT) fs ts []):=⟨HB.out,hS ▸ hA0.1.hB,hS ▸ hA0.1,World.ownsRow_nil _ _ _ _,hA0.2⟩;clear hA0 hS hA
     go_loopg [15] n (fun gk v wr=>∃(i:Nat) (vU:Value) (us:List Bool),v=.int .i64 i/\i<=n/\gk=n - i/\us.length=i/\Hid (RU w1 B wr S gm gd W H L n a a (.slice (some ⟨gF,0,none⟩) a cF) vU (.slice (some ⟨gT,0,none⟩) a cT) fs ts us))
     case atStart=>exact ⟨0,_,[],rfl,Em _,rfl,rfl,k9.out⟩
     clear k9
     case round=>
      obtain ⟨i,vU,us,rfl,hi,rfl,h7,hQ⟩:=hrel;obtain ⟨wU,rfl⟩:∃wU:World,wU=wr:=⟨_,rfl⟩;rcases Ev i n with hin | hin
      ·have q9:decide (i<n)=true:=Eb hin;have r4:decide ((i:Int)<(n:Int))=true:=Eb (by omega);have E2:Hid (za w1 wU):=hQ.out.ex;have s5:us.length<=16:=by omega
       have A5:=zh h7;clear h7;go_upto_region 42 with fail;refine r42_wp hQ s5 (fun c a a' W he h=>(show a'.defers=[]/\AD w (.panicked c) W from ⟨he ▸ (show a.defers=[]/\AD w (.panicked c) W from h).1,(show a.defers=[]/\AD w (.panicked c) W from h).2⟩)) fun vU' x w2 h9 x211 x212 x213 x214 x215 x216 x217 x218=>?_;have x9:=zh h9;clear h9
       go_wp2_with fail
       go_roundg (n - (i+1))
       case measure=>omega
       case rel=>exact ⟨i+1,_,_,by go_num,hin,rfl,by rw [Eg,A5.out];rfl,x9.out⟩
      ·have q9:decide (i<n)=false:=Ec (by omega);have r4:decide ((i:Int)<(n:Int))=false:=Ec (by omega);have s6:us.length=n:=by omega
       obtain ⟨Au,cu,s8,-,-⟩:=OwnB.bools hQ.out.ow;rw [h7] at s8;subst s8;have a3:=l0.out;obtain ⟨mm,nn,s0,m7,m9⟩:=RU.maze hQ.out a3.1 a3.2.1 a3.2.2 HN.out r9 s6;have x7:=zh s0;have x6:=zh m7;have x8:=zh m9;have J:zl wU w.heap.size 32 #[.int .i64 0,.int .i64 0,.int .i64 0,.slice none 0 0,.slice none 0 0,.slice none 0 0]:=c7.out.1.ext hQ.out.ex;have z0:wU.cell? ⟨w.heap.size,0,none⟩=some (.int .i64 0):=J.cell (k:=0) rfl;have z1:wU.cell? ⟨w.heap.size,1,none⟩=some (.int .i64 0):=J.cell (k:=1) rfl;have z2:wU.cell? ⟨w.heap.size,2,none⟩=some (.int .i64 0):=J.cell (k:=2) rfl;have z3:wU.cell? ⟨w.heap.size,3,none⟩=some (.slice none 0 0):=J.cell (k:=3) rfl;have z4:wU.cell? ⟨w.heap.size,4,none⟩=some (.slice none 0 0):=J.cell (k:=4) rfl;have z5:wU.cell? ⟨w.heap.size,5,none⟩=some (.slice none 0 0):=J.cell (k:=5) rfl;have hfz:∀j,wU.frozen? ⟨w.heap.size,j,none⟩=false:=fun j=>J.frozen j
       have m0:wU.cell? ⟨gm,0,none⟩=some (.int .i64 W):=hQ.out.ms.mz.cell (k:=0) rfl;have m1:wU.cell? ⟨gm,1,none⟩=some (.int .i64 H):=hQ.out.ms.mz.cell (k:=1) rfl;have m2:wU.cell? ⟨gm,2,none⟩=some (.int .i64 L):=hQ.out.ms.mz.cell (k:=2) rfl;have m3:wU.cell? ⟨gm,3,none⟩=some (.slice (some ⟨gF,0,none⟩) a cF):=hQ.out.ms.mz.cell (k:=3) rfl;have m4:wU.cell? ⟨gm,4,none⟩=some (.slice Au i cu):=hQ.out.ms.mz.cell (k:=4) rfl;have m5:wU.cell? ⟨gm,5,none⟩=some (.slice (some ⟨gT,0,none⟩) a cT):=hQ.out.ms.mz.cell (k:=5) rfl;have t7:=zh J;have v9:Hid (za w1 wU):=hQ.out.ex;clear a3 s0 m7 m9 J s6 hin hQ
       go_wp2_with fail
       refine case_fin (P:=fun W=>bodyPost Tryz.prog Tryz.f26 (AD w) Exit.ret _ W) (g2:=w.heap.size) ?_ t7.out;intro WZ a6 A9 U;have y0:WZ.cell? ⟨w.heap.size,0,none⟩=some (.int .i64 W):=a6.cell (k:=0) rfl;have y1:WZ.cell? ⟨w.heap.size,1,none⟩=some (.int .i64 H):=a6.cell (k:=1) rfl;have y2:WZ.cell? ⟨w.heap.size,2,none⟩=some (.int .i64 L):=a6.cell (k:=2) rfl;have y3:WZ.cell? ⟨w.heap.size,3,none⟩=some (.slice (some ⟨gF,0,none⟩) a cF):=a6.cell (k:=3) rfl;have y4:WZ.cell? ⟨w.heap.size,4,none⟩=some (.slice Au i cu):=a6.cell (k:=4) rfl;have y5:WZ.cell? ⟨w.heap.size,5,none⟩=some (.slice (some ⟨gT,0,none⟩) a cT):=a6.cell (k:=5) rfl;have C6:za w wU:=a9.out.trans v9.out;have B8:=x7.out.keepW (w':=WZ) (ok':=fun b=>w.heap.size<=b) (fun b hb h4=>U b h4 (by have:=c7.out.2;have:=HB.out;omega)) (fun b hb=>by have:=c7.out.2;have:=HB.out;omega)
       exact ER (v:=.agg #[.int .i64 W,.int .i64 H,.int .i64 L,.slice (some ⟨gF,0,none⟩) a cF,.slice Au i cu,.slice (some ⟨gT,0,none⟩) a cT]) (by simp [results,Tryz.results26,go_sem,y0,y1,y2,y3,y4,y5]) rfl
        ⟨_,mm,nn,rfl,Below.trans C6 A9,B8,x6.out,x8.out⟩
theorem samePaths_t {v':Value} {a b:List (List Int)} (w:World) (d:a=b) (h:Aa w ok v a) (B:Aa w ok' v' b) (E:a.length<=1000) (o:∀x∈a,x.length<=1000):
  Calls Tryz.prog 14 #[v,v'] w fun e w'=>e=.returned (.bool true)/\z8 w w':=by
 refine (samePaths_calls w h B (by omega) (by rw [<-d];omega) (fun x h=>by have:=o x h;omega) (fun x h=>by have:=o x (by rw [d];exact h);omega)).mono ?_;rintro e w' ⟨rfl,D⟩;exact ⟨by rw [Eb d],D⟩
theorem AC.bound {w:World} {X Y:Nat->Prop} {g gr cap:Nat} {m:MZ} {s:RS} {pt:List Nat} (h:AC w X Y g gr cap m s pt):AC w (fun k=>X k/\k<w.heap.size) Y g gr cap m s pt:=
 ⟨h.blk,⟨h.xg,zc h.blk⟩,⟨h.xr,(h.row.1.lt gr rfl).2⟩,h.ne,h.yg,h.yr,h.row.1,h.row.2.1,fun k p hp=>(h.row.2.2 k p hp).bound.weaken fun b hb=>by
  rcases hb with ⟨hb | hb,d⟩
  ·exact .inl ⟨⟨hb.1,d⟩,hb.2⟩
  ·exact .inr hb⟩
theorem AC.chg {w w':World} {X Y X':Nat->Prop} {g gr cap:Nat} {m:MZ} {s:RS} {pt:List Nat} (h:AC w X Y g gr cap m s pt) (o:zC X' w w') (B:∀k,X k\/Y k->¬ X' k):AC w' X Y g gr cap m s pt:=
 h.same fun b d D=>o.block b d (B b D)
structure RtB (w:World) (X Y:Nat->Prop) (g:Nat) (m:MZ) (s:RS):Prop where
 rt:∃gr cap pt,AC w X Y g gr cap m s pt
 xb:∀k,X k->k<w.heap.size
 yb:∀k,Y k->k<w.heap.size
 good:AG m
 lens:Lens m
 ch:zK m s.ch
 st:0<=s.steps
section
variable {w w':World} {X Y X':Nat->Prop} {g:Nat} {m:MZ} {s:RS}
theorem RtB.chg (h:RtB w X Y g m s) (d:zC X' w w') (G:∀k,X k\/Y k->¬ X' k):RtB w' X Y g m s:=by
 obtain ⟨⟨gr,cap,pt,I⟩,h1,h2,h3,B,D,E⟩:=h;exact ⟨⟨gr,cap,pt,I.chg d G⟩,fun k o=>EA (h1 k o) d.size,fun k o=>EA (h2 k o) d.size,h3,B,D,E⟩
theorem RtB.ext (h:RtB w X Y g m s) (d:za w w'):RtB w' X Y g m s:=h.chg (zC.of_ext (X:=fun _=>False) d) (fun _ _ h=>h)
theorem RtB.step (h:RtB w X Y g m s) (n:Nat) (s':RS) (d:Bool) (O:s'.done=d) (G:RS.run m n s=s') (Q:n<=1000000) (I:n=0\/s.steps<=3000000000000000000):
  Calls Tryz.prog 83 #[.pointer (some ⟨g,0,none⟩),.int .i64 n] w fun e w'=>e=.returned (.bool d)/\RtB w' (fun k=>X k\/(w.heap.size<=k/\k<w'.heap.size)) Y g m s'/\zC X w w':=by
 obtain ⟨⟨gr,cap,pt,U⟩,h1,h2,h3,J,D,K⟩:=h;refine (stepN_calls (X:=fun k=>X k\/w.heap.size<=k) n w (U.widen fun _ h=>.inl h) h3 J D Q K I (fun _ h=>.inr h) h2).mono ?_;rintro e w' ⟨rfl,gr',cap',pt',B,o⟩;rw [G] at B⊢;refine ⟨by rw [O],⟨⟨gr',cap',pt',B.bound.widen ?_⟩,?_,?_,h3,J,?_,?_⟩,?_⟩
 ·rintro k ⟨hk | hk,E⟩
  ·exact .inl hk
  ·exact .inr ⟨hk,E⟩
 ·rintro k (hk | hk)
  ·exact EA (h1 k hk) o.size
  ·exact hk.2
 ·exact fun k hk=>EA (h2 k hk) o.size
 ·rw [<-G];exact run_isCh n D
 ·have:=run_steps (m:=m) n D;rw [G] at this;omega
 ·exact ⟨o.os,o.tape,o.output,o.size,fun b M V=>o.block b M (by
   rintro (h | h)
   ·exact V h
   ·omega)⟩
theorem RtB.fb (h:RtB w X Y g m s):∀k,X k\/Y k->k<w.heap.size:=fun k d=>d.elim (h.xb k) (h.yb k)
theorem RtB.choices (h:RtB w X Y g m s):Calls Tryz.prog 85 #[.pointer (some ⟨g,0,none⟩)] w fun e w'=>∃v',e=.returned v'/\Mk w w' v' s.ch:=by
 obtain ⟨⟨gr,cap,pt,o⟩,h1,h2,h3,B,d,D⟩:=h;exact choices_c w o (by have:=d.len300 h3;omega)
theorem RtB.stepsC (h:RtB w X Y g m s):Calls Tryz.prog 84 #[.pointer (some ⟨g,0,none⟩)] w fun e w'=>e=.returned (.int .i64 s.steps)/\w=w':=by
 obtain ⟨⟨gr,cap,pt,d⟩,h1,h2,h3,o,B,D⟩:=h;exact steps_c w d
theorem RtB.found (h:RtB w X Y g m s):Calls Tryz.prog 98 #[.pointer (some ⟨g,0,none⟩)] w (FoundPost w m s.ch):=by
 obtain ⟨⟨gr,cap,pt,B⟩,h1,h2,h3,d,o,D⟩:=h;exact found_c w B h3 d o
end
end
section
open Go.RowKit
structure RInv (m:MZ) (s:RS):Prop where
 ch:zK m s.ch
 st:0<=s.steps
 dn:s.done=(loadS m s.ch s.steps).done
 op:s.ch≠[]->Az m s.ch=true
theorem rinv_load {m:MZ}:RInv m (loadS m [] 0):=⟨.nil,Int.le_refl _,rfl,fun h=>absurd rfl h⟩
theorem RInv.one {m:MZ} {s:RS} (h:RInv m s):RInv m (s.one m):=by
 unfold RS.one
 split
 ·rename_i c d
  obtain ⟨h1,h2,h3⟩:=stepC_some h.ch d;refine ⟨h1,by have:=h.st;show 0<=s.steps+1;omega,?_,fun _=>h3⟩;show zV m c=(zV m c || (decide (c=[]) && decide (0<s.steps+1)));have:decide (c=[])=false:=Ec (by rintro rfl;simp at h2);rw [this,Bool.false_and,Bool.or_false]
 ·refine ⟨.nil,by have:=h.st;show 0<=s.steps+1;omega,?_,fun h=>absurd rfl h⟩;show true=(zV m [] || (decide (([]:List Int)=[]) && decide (0<s.steps+1)));have h1:decide (0<s.steps+1)=true:=Eb (by have:=h.st;omega);rw [h1];simp
theorem RInv.run {m:MZ}:∀(n:Nat) {s:RS},RInv m s->RInv m (RS.run m n s)
 | 0,s,h=>h
 | n+1,s,h=>by
  unfold RS.run
  split
  ·exact h
  ·exact RInv.run n h.one
theorem RInv.loadE {m:MZ} {s:RS} (h:RInv m s) (d:BM m=0):loadE m s.ch s.steps=0:=by
 unfold Go.Proofs.YtjomnbdjajjgfaaGreatDoor.loadE;rw [d,if_neg (by simp),if_neg (by have:=h.st;omega),if_pos];rw [Bo.2 h.ch,Bool.true_and,EY,Ei];by_cases h0:s.ch=[]
 ·exact .inl h0
 ·exact .inr (h.op h0)
theorem RInv.loadS {m:MZ} {s:RS} (h:RInv m s):loadS m s.ch s.steps=s:=by
 obtain ⟨c,d,n⟩:=s;have h1:d=(zV m c || (decide (c=[]) && decide (0<n))):=h.dn;show RS.mk c (zV m c || (decide (c=[]) && decide (0<n))) n=RS.mk c d n;rw [<-h1]
theorem RInv.open {m:MZ} {s:RS} (h:RInv m s) (d:BM m=0) (o:s.ch≠[]):openO m s.ch=true:=by
 unfold openO okC;rw [Bo.2 h.ch,h.op o,Eb d];rfl
theorem RInv.done {m:MZ} {s:RS} (h:RInv m s) (o:s.done=true) (d:zV m s.ch=false):s.ch=[]:=by
 have h1:=h.dn;rw [o] at h1;unfold Go.Proofs.YtjomnbdjajjgfaaGreatDoor.loadS at h1;simp only [d,Bool.false_or] at h1;have h2:=h1.symm;rw [Ek,Ei] at h2;exact h2.1
theorem loadB_calls {Y okc:Nat->Prop} {vc:Value} {m:MZ} {s:RS} (w:World) (hm:zY w Y v m) (I:Lens m) (B:zk w okc vc s.ch) (E:s.ch.length<=20000000000000) (d:∀b,Y b->b<w.heap.size) (K:BM m=0) (hI:RInv m s):
  Calls Tryz.prog 80 #[v,vc,.int .i64 s.steps] w fun e w'=>∃g,e=.returned (.tuple #[.pointer (some ⟨g,0,none⟩),.int .i64 0])/\za w w'/\RtB w' (fun k=>w.heap.size<=k/\k<w'.heap.size) Y g m s:=by
 refine (load_calls s.steps w hm I B E d).mono ?_;have o:=hI.loadE K;rintro e w' ⟨v',rfl,G,h | ⟨h1,h2,h3,g,gr,cap,pt,rfl,J⟩⟩
 ·exact absurd o h.1
 ·rw [hI.loadS] at J;exact ⟨g,by rw [o];rfl,G,⟨gr,cap,pt,J.bound⟩,fun k D=>D.2,fun k D=>EA (d k D) G.size,h2,I,h3,hI.st⟩
structure OneX (w wr:World) (X:Nat->Prop) (g:Nat) (m:MZ) (s:RS):Prop where
 ext:za w wr
 rt:RtB wr X (fun b=>b<w.heap.size) g m s
 lo:∀k,X k->w.heap.size<=k
 inv:RInv m s
section
variable {w wr w':World} {X X':Nat->Prop} {g g':Nat} {m:MZ} {s s':RS}
theorem OneX.more (h:OneX w wr X g m s) (d:za wr w'):OneX w w' X g m s:=⟨h.ext.trans d,h.rt.ext d,h.lo,h.inv⟩
theorem OneX.other (h:OneX w wr X g m s) (o:∀k,X' k->w.heap.size<=k) (E:∀k,X k->¬ X' k) (B:zC X' wr w'):OneX w w' X g m s:=
 ⟨Below.trans h.ext (B.below h.ext.size o),h.rt.chg B (fun k d D=>d.elim (fun d=>E k d D) (fun d=>by have:=o k D;omega)),h.lo,h.inv⟩
theorem OneX.step (h:OneX w wr X g m s) (n:Nat) (D:n<=1000000) (o:n=0\/s.steps<=3000000000000000000):
  Calls Tryz.prog 83 #[.pointer (some ⟨g,0,none⟩),.int .i64 n] wr fun e w'=>e=.returned (.bool (RS.run m n s).done)/\OneX w w' (fun k=>X k\/(wr.heap.size<=k/\k<w'.heap.size)) g m (RS.run m n s)/\zC X wr w':=by
 refine (h.rt.step n _ _ rfl rfl D o).mono ?_;rintro e w' ⟨rfl,E,B⟩;exact ⟨rfl,⟨Below.trans h.ext (B.below h.ext.size h.lo),E,fun k d=>d.elim (h.lo k) (fun d=>Ea h.ext.size d.1),h.inv.run n⟩,B⟩
end
end
section
open Go.RowKit
attribute [local go_sem ↓] Go.wp_at_zero Go.wp_at_succ
attribute [local go_sem] Oper.semAt_some
theorem intss_nil (w:World) (ok:Nat->Prop):Aa w ok (.slice none 0 0) []:=⟨[],⟨none,0,rfl,DY _,AT.nil _ _ _ _⟩,fun i x d=>by simp at d⟩
structure RB (W:World) (g:Nat) (a b c0 c1 c2 d:Value):Prop where
 p:zl W (g+3) 22 #[a]
 m:zl W (g+4) 23 #[b]
 y:zl W (g+5) 41 #[c0,c1,c2]
 e:zl W (g+6) 42 #[d]
theorem RB.ext {W W':World} {g:Nat} {a b c0 c1 c2 d:Value} (h:RB W g a b c0 c1 c2 d) (o:za W W'):RB W' g a b c0 c1 c2 d:=⟨h.p.ext o,h.m.ext o,h.y.ext o,h.e.ext o⟩
end
section
open Go.RowKit
theorem hset {g k:Nat} {x:Value}:∀b,b≠g->(W.setCell ⟨g,k,none⟩ x).heap[b]?=W.heap[b]?:=fun b d=>Eh W ⟨g,k,none⟩ _ b d
theorem DG.wk {w:World} (h:DG w ok v p) (o:∀b,ok b->b<w.heap.size->ok' b):DG w ok' v p:=h.bound.keepW (fun b d B=>rfl) (fun b d=>o b d.1 d.2)
end
section
open Go.RowKit
attribute [local go_sem ↓] Go.wp_at_zero Go.wp_at_succ
theorem pref_intss {w:World} {A:Option Addr} {c N:Nat} {l:List (List Int)} (h:Aa w ok (.slice A n c) l) (J:N<=n):Aa w ok (.slice A N c) (l.take N):=by
 obtain ⟨vs,⟨A',c',e,K,G,I⟩,he⟩:=h;injection e with e1 e2 e3;subst e1 e2 e3;refine ⟨vs.take N,⟨A,c,by rw [EQ,Nat.min_eq_left (by omega)],by rw [EQ];omega,by simp [G],fun hp=>?_⟩,fun i x B=>?_⟩
 ·rw [EQ] at hp;obtain ⟨b,off,e,D,d⟩:=I (by omega);refine ⟨b,off,e,D,fun j u o=>d j u ?_⟩;rw [List.getElem?_take] at o
  split at o
  ·exact o
  ·cases o
 ·rw [List.getElem?_take] at B⊢
  split at B
  ·rename_i E
   rw [if_pos E];exact he i x B
  ·cases B
end
section
open Go.RowKit
theorem DG.one {w:World} {g:Nat} (t:Int) (d:zl w g 41 #[a,b,c]) (o:ok g) (h:DG w ok (.agg #[a,b,c]) p):DG w ok (.agg #[.int .i64 t,.slice none 0 0,.slice (some ⟨g,0,none⟩) 1 1]) (.node t [] [p]):=
 .mk (cs:=[a,b,c]) (zk.nil _ _) ⟨_,_,rfl,DY _,rfl,fun _=>⟨g,0,rfl,o,fun j u D=>by rw [Nat.zero_add];exact zl.cell (cs:=#[a,b,c]) d (by simpa using D)⟩⟩ (fun i B=>by
  match i,B with
  | 0,_=>exact h)
theorem DG.two {w:World} {g:Nat} {d e f:Value} {q:PT} (t:Int) (B:zl w g 41 #[a,b,c,d,e,f]) (D:ok g) (h:DG w ok (.agg #[a,b,c]) p) (o:DG w ok (.agg #[d,e,f]) q):DG w ok (.agg #[.int .i64 t,.slice none 0 0,.slice (some ⟨g,0,none⟩) 2 2]) (.node t [] [p,q]):=
 .mk (cs:=[a,b,c,d,e,f]) (zk.nil _ _) ⟨_,_,rfl,DY _,rfl,fun _=>⟨g,0,rfl,D,fun j u G=>by rw [Nat.zero_add];exact zl.cell (cs:=#[a,b,c,d,e,f]) B (by simpa using G)⟩⟩ (fun i E=>by
  match i,E with
  | 0,_=>exact h
  | 1,_=>exact o)
def GivesZ {α:Type} (n:Nat) (P:Program) (g:Nat) (lb:Array Value) (encs:α->Array Value) (G:Nat->α->World->Prop) (N:Nat) (Z:Nat->Prop) (w:World):Prop:=
 ∀(l:Nat) (J:Nat->World->Prop) (Jx:World->Prop) (W:World),za w W->w.heap.size<=l->l<W.heap.size->(∀k A B,J k A->Below W.heap.size A B->J k B)->(∀A B,Jx A->Below W.heap.size A B->Jx B)->
  (∀k x W1,k<N->J k W1->G k x W1->YieldAt Fence.wide (n - 1) P l (encs x) W1 fun e W'=>(e=.returned (.bool true)/\J (k+1) W'/\zC (fun b=>b=l\/Z b) W1 W')\/(e=.returned (.bool false)/\Jx W'/\∀b,W.heap.size<=b->b<W1.heap.size->W'.heap[b]?=W1.heap[b]?))->
  J 0 W->
  CallsIn Fence.wide n P g (#[.func (.yield l) #[] #[]]++lb) W fun e W'=>(∃v,e=.returned v)/\(J N W'\/Jx W')
end
section
open Go.RowKit
attribute [local go_sem ↓] Go.wp_at_zero Go.wp_at_succ
attribute [local go_sem] Oper.semAt_some
theorem yield_any {m:Nat} {P:Program} {l:Nat} {args:Array Value} {R:Ending->World->Prop} (h:YieldAt Fence.wide m P l args W R):
  ∃fn tmps assign body,(Instr.yield l args).run P W=.ok (.round l fn tmps assign body) W/\∀m',RoundIn Fence.wide m' P l fn tmps assign body W R:=by
 obtain ⟨fn,tmps,assign,body,o,d⟩:=h;exact ⟨fn,tmps,assign,body,o,fun m'=>⟨d.1,fun c cs _=>d.2 c cs (room_wide _)⟩⟩
theorem fold_one (p:Tmp) (v:Value) (T:Array Value):(#[p].zip #[v]).foldl (fun t (p,v)=>t.setIfInBounds p v) T=T.setIfInBounds p v:=by
 simp
theorem DG.inv {w:World} {t:Int} {vs vk:Value} (h:DG w ok (.agg #[.int .i64 t,vs,vk]) p):∃side kids cs,p=.node t side kids/\zk w ok vs side/\Bv w ok 3 vk kids.length cs/\
  ∀(i:Nat) (d:i<kids.length),DG w ok (.agg #[cs.getD (i*3) undef,cs.getD (i*3+1) undef,cs.getD (i*3+2) undef]) kids[i]:=by
 cases h with
 | mk h1 h2 h3=>exact ⟨_,_,_,rfl,h1,h2,h3⟩
end
end Go.Proofs.YtjomnbdjajjgfaaGreatDoor
