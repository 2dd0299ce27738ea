import Derived.Test.YtfjjdmpndmbfoaaGreatDoorWTo
import Derived.Deep.LoopGhost
import Derived.Deep.AppendLies
import Derived.StillTailTactics
set_option linter.unusedVariables false
set_option linter.unusedSimpArgs false
set_option maxRecDepth 100000
set_option maxHeartbeats 16000000
namespace Go.Proofs.YtfjjdmpndmbfoaaGreatDoor
variable {ok ok':Nat->Prop} {v:Value}
section
open Go.RowKit
attribute [local go_sem ↓] Go.wp_at_zero Go.wp_at_succ
def startsReg (n:Nat):Code->Bool
 | .region id _ _=>decide (id=n)
 | .seq a _=>startsReg n a
 | .block _ c=>startsReg n c
 | _=>false
def Cv (n:Nat):Code->Option Code
 | .loop c=>if startsReg n c=true then some (.loop c) else Cv n c
 | .seq a b=>match Cv n a with
  | some c=>some c
  | none=>Cv n b
 | .cond _ a b=>match Cv n a with
  | some c=>some c
  | none=>Cv n b
 | .block _ c=>Cv n c
 | _=>none
noncomputable def code12:Code:=(Tryz.f7.body.bind (Cv 29)).getD .skip
theorem loop12_wp {w1 wr0:World} {Q:Exit->Act->World->Prop} {B gm gd gF gT cF cT n t:Nat} {W H L:Int} {fs ts:List Value} {u0 u1 u2 u3 u7 u8 u9 u10 u11 u13 u14 u15 u16 u17 u18 u19 u20 u21 u22 u23 u24 u25 u26 u27 u28 u29 u30 u31 u32 u33 u34 u35 u36 u37 u38 u39 u40 u41 u42 u43 u44 u45 u46 u47 u48 u49 u50 u51 u52 u53 u54 u55 u56 u57 u58 u59 u60 u61 u62 u63 u64 u65 u66 u67 u68 u69 u70 u71 u72 u73 u74 u75 u76 u77 u78 u79 u80 u81 u82 u83 u84 u85 u86 u87 u88 u89 u90 u91 u92 u93 u94 u95 u96 u97 u98 u99 u100 u101 u102 u103 u104 u105 u106 u107 u108 u109 u110 u111 u112 u113 u114 u115 u116 u117 u118 u119 u120 u121 u122 u123 u124 u125 u126 u127 u128 u129 u130 u131 u132 u133 u134 u135 u136 u137 u138 u139 u140 u141 u142 u143 u144 u145 u146 u147 u148 u149 u150 u151 u152 u153 u154 u155 u156 u157 u158 u159 u160 u161 u162 u163 u164 u165 u166 u167 u168 u169 u170 u171 u172 u173 u174 u175 u176 u177 u178 u179 u180 u181 u182 u183 u184 u185 u186 u187 u188 u189 u190 u191 u192 u193 u194 u195 u196 u197 u198 u199 u200 u201 u202 u203 u204 u205 u206 u207 u208 u209 u210 u211 u212 u213 u214 u215 u216 u217 u218 u219:Value}
  (HB:Hid (B=w1.heap.size)) (f1:B<=gT) (f0:B<=gF) (HcT:Hid (t<=cT)) (HcF:Hid (t<=cF)) (f7:2<=n/\n<=16) (f6:1<=t/\t<=3)
  (hA0:Hid (MS B wr0 wr0.heap.size gm gd W H L n t t (.slice (some ⟨gF,0,none⟩) t cF) (.slice none 0 0) (.slice (some ⟨gT,0,none⟩) t cT) fs ts/\zc w1 wr0))
  (hP:∀c (a a':Act) w,a.defers=a'.defers->Q (.panic c) a w->Q (.panic c) a' w)
  (G:∀(w2:World),Hid (MS B w2 w2.heap.size gm gd W H L n t t (.slice (some ⟨gF,0,none⟩) t cF) (.slice none 0 0) (.slice (some ⟨gT,0,none⟩) t cT) fs ts/\zc w1 w2)->∀(x13 x14 x143 x144 x145 x146 x147 x148 x149 x150 x151 x152 x153 x154 x155 x156 x157 x158 x159 x160 x161 x162 x163 x164 x165 x166 x167 x168 x169 x170 x171 x172 x173 x174 x175 x176 x177 x178 x179 x180 x181 x182 x183 x184 x185 x186 x187 x188 x189 x190 x191 x192 x193 x194 x195 x196 x197 x198 x199 x200 x201 x202 x203 x204 x205:Value),Q (.exit 4) ⟨(u0 :: u1 :: u2 :: u3 :: Value.pointer (some ⟨gm,0,none⟩) :: Value.int .i64 (n:Nat) :: Value.int .i64 (t:Nat) :: u7 :: u8 :: u9 :: u10 :: u11 :: Value.int .i64 (t:Nat) :: x13 :: x14 :: u15 :: u16 :: u17 :: u18 :: u19 :: u20 :: u21 :: u22 :: u23 :: u24 :: u25 :: u26 :: u27 :: u28 :: u29 :: u30 :: u31 :: u32 :: u33 :: u34 :: u35 :: u36 :: u37 :: u38 :: u39 :: u40 :: u41 :: u42 :: u43 :: u44 :: u45 :: u46 :: u47 :: u48 :: u49 :: u50 :: u51 :: u52 :: u53 :: u54 :: u55 :: u56 :: u57 :: u58 :: u59 :: u60 :: u61 :: u62 :: u63 :: u64 :: u65 :: u66 :: u67 :: u68 :: u69 :: u70 :: u71 :: u72 :: u73 :: u74 :: u75 :: u76 :: u77 :: u78 :: u79 :: u80 :: u81 :: u82 :: u83 :: u84 :: u85 :: u86 :: u87 :: u88 :: u89 :: u90 :: u91 :: u92 :: u93 :: u94 :: u95 :: u96 :: u97 :: u98 :: u99 :: u100 :: u101 :: u102 :: u103 :: u104 :: u105 :: u106 :: u107 :: u108 :: u109 :: u110 :: u111 :: u112 :: u113 :: u114 :: u115 :: u116 :: u117 :: u118 :: u119 :: u120 :: u121 :: u122 :: u123 :: u124 :: u125 :: u126 :: u127 :: u128 :: u129 :: u130 :: u131 :: u132 :: u133 :: u134 :: u135 :: u136 :: u137 :: u138 :: u139 :: u140 :: u141 :: u142 :: x143 :: x144 :: x145 :: x146 :: x147 :: x148 :: x149 :: x150 :: x151 :: x152 :: x153 :: x154 :: x155 :: x156 :: x157 :: x158 :: x159 :: x160 :: x161 :: x162 :: x163 :: x164 :: x165 :: x166 :: x167 :: x168 :: x169 :: x170 :: x171 :: x172 :: x173 :: x174 :: x175 :: x176 :: x177 :: x178 :: x179 :: x180 :: x181 :: x182 :: x183 :: x184 :: x185 :: x186 :: x187 :: x188 :: x189 :: x190 :: x191 :: x192 :: x193 :: x194 :: x195 :: x196 :: x197 :: x198 :: x199 :: x200 :: x201 :: x202 :: x203 :: x204 :: x205 :: u206 :: u207 :: u208 :: u209 :: u210 :: u211 :: u212 :: u213 :: u214 :: u215 :: u216 :: u217 :: u218 :: u219 :: []).toArray,[]⟩ w2):
  code12.wp Tryz.prog Q ⟨(u0 :: u1 :: u2 :: u3 :: Value.pointer (some ⟨gm,0,none⟩) :: Value.int .i64 (n:Nat) :: Value.int .i64 (t:Nat) :: u7 :: u8 :: u9 :: u10 :: u11 :: Value.int .i64 0 :: u13 :: u14 :: u15 :: u16 :: u17 :: u18 :: u19 :: u20 :: u21 :: u22 :: u23 :: u24 :: u25 :: u26 :: u27 :: u28 :: u29 :: u30 :: u31 :: u32 :: u33 :: u34 :: u35 :: u36 :: u37 :: u38 :: u39 :: u40 :: u41 :: u42 :: u43 :: u44 :: u45 :: u46 :: u47 :: u48 :: u49 :: u50 :: u51 :: u52 :: u53 :: u54 :: u55 :: u56 :: u57 :: u58 :: u59 :: u60 :: u61 :: u62 :: u63 :: u64 :: u65 :: u66 :: u67 :: u68 :: u69 :: u70 :: u71 :: u72 :: u73 :: u74 :: u75 :: u76 :: u77 :: u78 :: u79 :: u80 :: u81 :: u82 :: u83 :: u84 :: u85 :: u86 :: u87 :: u88 :: u89 :: u90 :: u91 :: u92 :: u93 :: u94 :: u95 :: u96 :: u97 :: u98 :: u99 :: u100 :: u101 :: u102 :: u103 :: u104 :: u105 :: u106 :: u107 :: u108 :: u109 :: u110 :: u111 :: u112 :: u113 :: u114 :: u115 :: u116 :: u117 :: u118 :: u119 :: u120 :: u121 :: u122 :: u123 :: u124 :: u125 :: u126 :: u127 :: u128 :: u129 :: u130 :: u131 :: u132 :: u133 :: u134 :: u135 :: u136 :: u137 :: u138 :: u139 :: u140 :: u141 :: u142 :: u143 :: u144 :: u145 :: u146 :: u147 :: u148 :: u149 :: u150 :: u151 :: u152 :: u153 :: u154 :: u155 :: u156 :: u157 :: u158 :: u159 :: u160 :: u161 :: u162 :: u163 :: u164 :: u165 :: u166 :: u167 :: u168 :: u169 :: u170 :: u171 :: u172 :: u173 :: u174 :: u175 :: u176 :: u177 :: u178 :: u179 :: u180 :: u181 :: u182 :: u183 :: u184 :: u185 :: u186 :: u187 :: u188 :: u189 :: u190 :: u191 :: u192 :: u193 :: u194 :: u195 :: u196 :: u197 :: u198 :: u199 :: u200 :: u201 :: u202 :: u203 :: u204 :: u205 :: u206 :: u207 :: u208 :: u209 :: u210 :: u211 :: u212 :: u213 :: u214 :: u215 :: u216 :: u217 :: u218 :: u219 :: []).toArray,[]⟩ wr0:=by
 have a3:=zh hA0.out.1;have a4:=zh hA0.out.2;clear hA0;have K:=zh G;clear G
 conv=>arg 2;whnf
 go_loopg [12] t (fun gk v wr=>∃(a:Nat),v=.int .i64 a/\a<=t/\gk=t - a/\Hid (MS B wr wr.heap.size gm gd W H L n t t (.slice (some ⟨gF,0,none⟩) t cF) (.slice none 0 0) (.slice (some ⟨gT,0,none⟩) t cT) fs ts/\zc w1 wr))
 case atStart=>exact ⟨0,rfl,DS _,rfl,a3.out,a4.out⟩
 clear a3 a4
 case round=>
  obtain ⟨a,rfl,ha,rfl,hA⟩:=hrel;obtain ⟨wA,rfl⟩:∃wA:World,wA=wr:=⟨_,rfl⟩;rcases Ea a t with D | hage
  ·skip
   go_wp2_with fail
   go_loopg [13] t (fun gk v wr=>∃(b:Nat),v=.int .i64 b/\b<=t/\gk=t - b/\Hid (MS B wr wr.heap.size gm gd W H L n t t (.slice (some ⟨gF,0,none⟩) t cF) (.slice none 0 0) (.slice (some ⟨gT,0,none⟩) t cT) fs ts/\zc w1 wr))
   case atStart=>exact ⟨0,rfl,DS _,rfl,hA.out⟩
   clear hA
   case round=>
    obtain ⟨b,rfl,hb,rfl,hA⟩:=hrel;obtain ⟨wB,rfl⟩:∃wB:World,wB=wr:=⟨_,rfl⟩;rcases Ea b t with E | hbge
    ·go_wp2_with fail
     go_loopg [14] n (fun gk v wr=>∃(k:Nat),v=.int .i64 k/\k<=n/\gk=n - k/\Hid (MS B wr wr.heap.size gm gd W H L n t t (.slice (some ⟨gF,0,none⟩) t cF) (.slice none 0 0) (.slice (some ⟨gT,0,none⟩) t cT) fs ts/\zc w1 wr))
     case atStart=>exact ⟨0,rfl,DS _,rfl,hA.out⟩
     clear hA
     case round=>
      obtain ⟨k,rfl,hk,rfl,hA⟩:=hrel;by_cases O:k<n/\b≠a
      ·obtain ⟨U,d⟩:=O;have I:decide (k<n)=true:=DH U;have e6:decide ((k:Int)<(n:Int))=true:=DH (by omega);have a5:((b:Int)==(a:Int))=false:=by rw [DR];omega
       have a6:((b:Int) != (a:Int))=true:=by rw [bne_iff_ne];omega
       have d4:(b==a)=false:=by rw [DR];exact d
       have d5:(b != a)=true:=by rw [bne_iff_ne];exact d
       have d6:decide (b=a)=false:=DI d;have e3:=HcT.out;have d9:=HcF.out;have f5:(0:Int)<=(b:Int)/\(b:Int)<(t:Int):=by omega
       have c8:(0:Int)<=(a:Int)/\(a:Int)<(t:Int):=by omega
       have e5:(0:Int)<=(k:Int)/\(k:Int)<(n:Int):=by omega
       have hm:=hA.out.1;have m5:wr.cell? ⟨gm,5,none⟩=some (.slice (some ⟨gT,0,none⟩) t cT):=hm.mz.cell (k:=5) rfl;have m3:wr.cell? ⟨gm,3,none⟩=some (.slice (some ⟨gF,0,none⟩) t cF):=hm.mz.cell (k:=3) rfl;obtain ⟨sb,u1,u2,e0,e1,e2,l1,l2,o1,o2,-,⟨k1,k2⟩,-,-⟩:=hm.td b E;obtain ⟨sa,v1,v2,d0,d1,d2,p1,p2,q1,q2,-,⟨j1,j2⟩,-,-⟩:=hm.td a D;obtain ⟨uf,a9,lf,o,b0,-⟩:=hm.fd a D;have b8:0<lf.length:=by omega
       obtain ⟨gb,cb,rfl,b6,-⟩:=World.ownsRow.form o b8;have T1:wr.cell? ⟨gT,b*3+1,none⟩=some u1:=(hm.T.cellAt (b*3+1) (by omega)).trans e1;have T2:wr.cell? ⟨gT,b*3+2,none⟩=some u2:=(hm.T.cellAt (b*3+2) (by omega)).trans e2;have A1:wr.cell? ⟨gT,a*3+1,none⟩=some v1:=(hm.T.cellAt (a*3+1) (by omega)).trans d1;have A2:wr.cell? ⟨gT,a*3+2,none⟩=some v2:=(hm.T.cellAt (a*3+2) (by omega)).trans d2;have F1:wr.cell? ⟨gF,a,none⟩=some (.slice (some ⟨gb,0,none⟩) lf.length cb):=(hm.F.cellAt a (by omega)).trans a9;have e4:=Bq o;have b5:∀j,wr.frozen? ⟨gb,j,none⟩=false:=fun j=>World.ownsRow.frozenAt o j
       have J:∃bo,wr.cell? ⟨gb,k,none⟩=some (.bool bo):=by
        have h1:=World.ownsRow.cellAt o k (by omega);rw [El,DC (by omega)] at h1;exact ⟨_,h1⟩
       obtain ⟨bo,J⟩:=J;have a1:Hid (∃cs,zg wr gb 4 cs):=own_blkB o;have f3:=zh b0;have b7:(k:Int)<(lf.length:Int):=by omega
       obtain ⟨b1,B1⟩:=hasB (k:Int) o1 (by omega);obtain ⟨b2,B2⟩:=hasB (k:Int) o2 (by omega);obtain ⟨b3,B3⟩:=hasB (k:Int) q1 (by omega);obtain ⟨b4,B4⟩:=hasB (k:Int) q2 (by omega);have V:=zh B1;have a0:=zh B2;have b9:=zh B3;have c0:=zh B4;clear B1 B2 B3 B4 e0 e1 e2 o1 o2 d0 d1 d2 q1 q2 a9 o b0 hm d;go_upto_region 37 with fail;go_cut [180] from 163 to 180 (fun s wx=>(∃bb,s=.bool bb)/\wr=wx)
       case first=>
        go_wp2_with fail
        refine (V.out wr (zc.refl _)).mono ?_;rintro e w' ⟨rfl,rfl⟩
        cases b1 with
        | true=>
         go_wp2_with fail
         go_meet;exact ⟨⟨_,rfl⟩,rfl⟩
        | false=>
         go_wp2_with fail
         refine (a0.out wr (zc.refl _)).mono ?_;rintro e w' ⟨rfl,rfl⟩
         go_wp2_with fail
         go_meet;exact ⟨⟨_,rfl⟩,rfl⟩
       case rest=>
        obtain ⟨⟨bb,rfl⟩,rfl⟩:=hcut
        cases bb with
        | true=>
         clear I e6 a5 a6 d4 d5 d6 T1 T2 b8 e3
         go_wp2_with fail
         have a2:Hid (∀x,MS B ((wr.drew).setCell ⟨gb,k,none⟩ (.bool x)) ((wr.drew).setCell ⟨gb,k,none⟩ (.bool x)).heap.size gm gd W H L n t t (.slice (some ⟨gF,0,none⟩) t cF) (.slice none 0 0) (.slice (some ⟨gT,0,none⟩) t cT) fs ts/\zc w1 ((wr.drew).setCell ⟨gb,k,none⟩ (.bool x))):=fun x=>hA.out.1.stored (k:=k) hA.out.2 HB.out a1.out b6 x
         obtain ⟨csT,M⟩:=own_blkB hA.out.1.T;obtain ⟨csF,a8⟩:=own_blkB hA.out.1.F;obtain ⟨csB,a7⟩:=a1.out;have r5:=SB.rule hA.out.1.mz (by decide) m5;have r3:=SB.rule hA.out.1.mz (by decide) m3;have ra1:=SB.rule M (by decide) A1;have ra2:=SB.rule M (by decide) A2;have rf1:=SB.rule a8 (by decide) F1;have c7:Hid (∀W x,SB wr W->SB wr (W.setCell ⟨gb,k,none⟩ x)):=fun W x h=>h.set a7 x
         clear V a0 m5 m3 A1 A2 F1 M a8 a7;refine r38_wp (n:=n) c8 e5 d9 e4 b7 r5 r3 ra1 ra2 rf1 J b5 b9 c0 c7 (fun c a a' W he h=>hP c a a' W he h) fun b' x181 x182 x183 x184 x185 x186 x187 x188 x189 x190 x191 x192 x193 x194 x195 x196 x197 x198 x199 x200 x201 x202 x203 x204 x205=>?_;have c6:=zh (a2.out b');clear J b5 a2 r5 r3 ra1 ra2 rf1
         go_wp2_with fail
         go_roundg (n - (k+1))
         case measure=>omega
         case rel=>exact ⟨k+1,by go_num,U,rfl,c6.out⟩
        | false=>
         go_wp2_with fail
         go_roundg (n - (k+1))
         case measure=>omega
         case rel=>exact ⟨k+1,by go_num,U,rfl,hA.out⟩
      ·have e8:decide (k<n)=false\/(decide (k<n)=true/\b=a):=by
        by_cases h1:k<n
        ·exact .inr ⟨DH h1,by by_cases h2:b=a;exact h2;exact absurd ⟨h1,h2⟩ O⟩
        ·exact .inl (DI h1)
       clear O;rcases e8 with I | ⟨I,d⟩
       ·have e7:¬ k<n:=of_decide_eq_false I
        go_wp2_with fail
        go_roundg (t - (b+1))
        case measure=>omega
        case rel=>exact ⟨b+1,by go_num,E,rfl,hA.out⟩
       ·subst d;have e7:k<n:=of_decide_eq_true I;have a5:((b:Int)==(b:Int))=true:=by simp
        have a6:((b:Int) != (b:Int))=false:=by simp
        go_wp2_with fail
        go_roundg (t - (b+1))
        case measure=>omega
        case rel=>exact ⟨b+1,by go_num,E,rfl,hA.out⟩
    ·have d8:b=t:=by omega
     subst d8;have d7:decide (b<b)=false:=DI (by omega);clear hbge
     go_wp2_with fail
     go_roundg (b - (a+1))
     case measure=>omega
     case rel=>exact ⟨a+1,by go_num,D,rfl,hA.out⟩
  ·have c9:a=t:=by omega
   subst c9;have d7:decide (a<a)=false:=DI (by omega);clear hage
   go_wp2_with fail
   exact K.out wA hA _ _ _ _ _ _ _ _ _ _ _ _ _ _ _ _ _ _ _ _ _ _ _ _ _ _ _ _ _ _ _ _ _ _ _ _ _ _ _ _ _ _ _ _ _ _ _ _ _ _ _ _ _ _ _ _ _ _ _ _ _ _ _ _ _
theorem allocs_ext:∀(os:List Obj) (w:World),zc w (os.foldl World.alloc w)
 | [],w=>zc.refl w
 | o :: os,w=>((zc.refl w).alloc o).trans (allocs_ext os (w.alloc o))
theorem allocs_at:∀(os:List Obj) (w:World) (i:Nat) (o:Obj),os[i]?=some o->(os.foldl World.alloc w).heap[w.heap.size+i]?=some o
 | o :: os,w,0,o',h=>by
  have:o=o':=by simpa using h
  subst this;exact ((allocs_ext os (w.alloc o)).block _ (by simp)).trans (Ep w o)
 | o :: os,w,i+1,o',h=>by
  have:=allocs_at os (w.alloc o) i o' (by simpa using h);rw [show w.heap.size+(i+1)=(w.alloc o).heap.size+i from by simp;omega];exact this
theorem fin_allocs {P:World->Prop} (w:World) (os:List Obj) (h:∀W,zc w W->(∀(i:Nat) o,os[i]?=some o->W.heap[w.heap.size+i]?=some o)->P W):P (os.foldl World.alloc w):=h _ (allocs_ext os w) (fun i o d=>allocs_at os w i o d)
theorem madeN_calls {ls:List (List Int)} (w:World) (hl:zV w ok v ls) (D7:ls.length<=9223372036854775807) (q7:∀l∈ls,l.length<=9223372036854775807):
  Calls Tryz.prog 7 #[v] w (Aj w):=by
 have q5:=hl.bound;have D0:=zh q5;obtain ⟨vs,⟨A,c,rfl,hc,hr⟩,he⟩:=q5;have HR:=zh hr;have HE:=zh he;clear hl hr he;have k3:=zh q7;clear q7;obtain ⟨iI,ji,jz0,jz1,jz2⟩:=info_parts Tryz.infoInt;have JF:=zh ji;have JZ0:=zh jz0;have JZ1:=zh jz1;have JZ2:=zh jz2;clear ji jz0 jz1 jz2;obtain ⟨iB,bi,bz0,bz1,bz2⟩:=info_parts Tryz.infoBool;have BF:=zh bi;have BZ0:=zh bz0;have BZ1:=zh bz1;have BZ2:=zh bz2;clear bi bz0 bz1 bz2;obtain ⟨iT,ti,tz0,tz1,tz2⟩:=info_parts Tryz.infoTask;have TF:=zh ti;have TZ0:=zh tz0;have TZ1:=zh tz1;have TZ2:=zh tz2;clear ti tz0 tz1 tz2;obtain ⟨iL,li,lz0,lz1,lz2⟩:=info_parts Tryz.infoBools;have LF:=zh li;have LZ0:=zh lz0;have LZ1:=zh lz1;have LZ2:=zh lz2;clear li lz0 lz1 lz2
 go_enter Tryz.func7,Tryz.ntmps7
 go_upto_region 1 with fail;generalize h7:w.alloc (.cells #[.int .i64 0,.int .i64 0,.int .i64 0,.slice none 0 0,.slice none 0 0,.slice none 0 0] 29)=w1;have l3:zc w w1:=by rw [<-h7];exact (zc.refl w).alloc _
 have c7:Hid (zg w1 w.heap.size 29 #[.int .i64 0,.int .i64 0,.int .i64 0,.slice none 0 0,.slice none 0 0,.slice none 0 0]/\w1.heap.size=w.heap.size+1):=by rw [<-h7];exact ⟨zg.new _ _ _ rfl,by simp⟩
 clear h7;have a9:=zh l3;obtain ⟨B,hB⟩:=EH w1.heap.size;obtain ⟨gd,d4⟩:=EH w1.heap.size;have HB:=zh hB;have e0:=zh d4;have n5:zP B (w1.alloc (.cells #[.slice none 0 0,.int .i64 0] 67)) gd:=⟨by omega,_,0,[],zg.new _ _ _ d4,zl.nil _ _,by simp,by simp⟩;have s6:=zh n5;clear n5 l3
 go_upto_if 20 with fail
 rw [<-d4];go_cut [] (fun wx=>Hid (zc w1 wx/\zP B wx gd))
 case first=>
  by_cases D:ls.length=0
  ·have h2:decide ((0:Int)<(ls.length:Int))=false:=by rw [D];rfl
   have d5:decide (0<ls.length)=false:=by rw [D];rfl
   have f4:¬ (0<ls.length):=by omega
   have HZ:=zh D;clear D
   go_wp2_with fail
   go_meet;exact ⟨(zc.refl _).alloc _,s6.out⟩
  ·have hp:0<ls.length:=by omega
   have h2:decide ((0:Int)<(ls.length:Int))=true:=DH (by omega);have d5:decide (0<ls.length)=true:=DH hp;obtain ⟨b0,o0,u0,rfl,r3,a7,d8⟩:=Bt HR.out HE.out hp hp;have HU:=zh d8;obtain ⟨A0,c0,rfl,n3,-⟩:=d8;rw [Nat.add_zero] at a7;have q0:=zc.rule a7;have f2:zc w (w1.alloc (.cells #[.slice none 0 0,.int .i64 0] 67)):=a9.out.alloc _;clear D a7
   go_wp2_with fail
   go_meet;have h1:=f2;refine ⟨(zc.refl _).alloc _,by omega,_,0,ls[0],zg.new _ _ _ d4,?_,k3.out _ (DF hp),DS _⟩;exact (zl.below HU.out (a9.out.alloc _)).weaken fun b hb=>by have:=hb.2;have:=c7.out.2;omega
 case rest=>
  have g5:B<=w1.heap.size:=by omega
  clear hB d4;obtain ⟨i0,n6⟩:=hcut.out;have s7:=zh n6;clear hcut n6
  go_wp2_with fail
  refine (zL 3 s7.out (by omega) (by omega)).mono ?_;rintro e w3 ⟨x,rfl,D8,D9,n7,p4⟩;have i1:zc w1 w3:=Below.grown i0 p4 i0.size (fun k U=>by injection U with U;have:=e0.out;omega);have s8:=zh n7;clear n7 p4 i0
  go_wp2_with fail
  refine (zL 4 s8.out (by omega) (by omega)).mono ?_;rintro e w4 ⟨y,rfl,E0,E1,n8,p5⟩;have i2:zc w1 w4:=Below.grown i1 p5 i1.size (fun k U=>by injection U with U;have:=e0.out;omega);have s9:=zh n8;clear n8 p5 i1
  go_wp2_with fail
  refine (zL 2 s9.out (by omega) (by omega)).mono ?_;rintro e w5 ⟨z,rfl,E3,E4,n9,p6⟩;have a8:zc w1 w5:=Below.grown i2 p6 i2.size (fun k U=>by injection U with U;have:=e0.out;omega);have t3:=zh n9;clear n9 p6 i2;have k4:Hid (zg (w5.alloc (.cells #[.int .i64 (2+x),.int .i64 (1+y),.int .i64 (1+z),.slice none 0 0,.slice none 0 0,.slice none 0 0] 29)) w5.heap.size 29 #[.int .i64 (2+x),.int .i64 (1+y),.int .i64 (1+z),.slice none 0 0,.slice none 0 0,.slice none 0 0]):=zg.new _ _ _ rfl;obtain ⟨gm,e8⟩:=EH w5.heap.size;rw [<-e8] at k4;have g3:=zh e8;have t5:=zh a8
  go_upto_if 39 with fail
  rw [<-e8];clear e8;go_cut [] (fun wx=>Hid (zc w1 wx/\zP B wx gd/\∃W H L:Int,(2<=W/\W<=4)/\(1<=H/\H<=4)/\(L=1\/(L=2/\W<=3/\H<=2))/\zg wx gm 29 #[.int .i64 W,.int .i64 H,.int .i64 L,.slice none 0 0,.slice none 0 0,.slice none 0 0]))
  case first=>
   have a5:=k4.out;generalize h8:w5.alloc (.cells #[.int .i64 (2+x),.int .i64 (1+y),.int .i64 (1+z),.slice none 0 0,.slice none 0 0,.slice none 0 0] 29)=w6 at*;have i3:zc w1 w6:=by rw [<-h8];exact a8.alloc _
   have i9:Hid (zP B w6 gd):=by rw [<-h8];exact t3.out.ext ((zc.refl _).alloc _) (DG g5 a8.size)
   clear h8;have m0:w6.cell? ⟨gm,0,none⟩=some (.int .i64 (2+x)):=a5.cell (k:=0) rfl;have m1:w6.cell? ⟨gm,1,none⟩=some (.int .i64 (1+y)):=a5.cell (k:=1) rfl;have m2:w6.cell? ⟨gm,2,none⟩=some (.int .i64 (1+z)):=a5.cell (k:=2) rfl;have hf:=fun k=>a5.frozen k
   have f8:=zh a5;clear a5;by_cases d9:z=1
   ·have ht:((1+z:Int)==2)=true:=by rw [beq_iff_eq];omega
    have A8:decide (1+z=2)=true:=DH (by omega);have h5:(z==1)=true:=by rw [beq_iff_eq];exact d9
    have x4:=zh d9;clear d9
    go_wp2_with fail
    go_meet;have e7:B<=gm:=by have:=g3.out;have:=a8.size;omega
    have p9:w1.heap.size<=gm:=by have:=g3.out;have:=a8.size;omega
    have p2:=i9.out;refine ⟨(i3.setCell (p:=⟨gm,0,none⟩) p9 _).setCell (p:=⟨gm,1,none⟩) p9 _,?_,min (2+x) 3,min (1+y) 2,1+z,by omega,by omega,.inr ⟨by have:=x4.out;omega,by omega,by omega⟩,?_⟩
    ·obtain ⟨cs,hb⟩:=p2.blk;have r2:gd≠gm:=zg.ne_ hb (f8.out) (by decide);exact p2.keep (((Below.refl B w6).setCell (p:=⟨gm,0,none⟩) e7 _).setCell (p:=⟨gm,1,none⟩) e7 _) ((DN _ ⟨gm,1,none⟩ _ gd r2).trans (DN _ ⟨gm,0,none⟩ _ gd r2))
    ·exact ((f8.out).set (k:=0) _).set (k:=1) _
   ·have ht:((1+z:Int)==2)=false:=by rw [DR];omega
    have A8:decide (1+z=2)=false:=DI (by omega);have h5:(z==1)=false:=by rw [DR];exact d9
    have s2:Hid (1+z=1):=by show _=_;omega
    clear d9
    go_wp2_with fail
    go_meet;exact ⟨i3,i9.out,2+x,1+y,1+z,by omega,by omega,.inl s2.out,f8.out⟩
  case rest=>
   obtain ⟨i4,o3,W,H,L,hW,hH,hL,M⟩:=hcut.out;clear hcut;have o8:=dims hW hH hL;have k7:Hid ((2<=W/\W<=4)/\(1<=H/\H<=4)/\(L=1\/(L=2/\W<=3/\H<=2))):=⟨hW,hH,hL⟩;have m0:wc.cell? ⟨gm,0,none⟩=some (.int .i64 W):=M.cell (k:=0) rfl;have m1:wc.cell? ⟨gm,1,none⟩=some (.int .i64 H):=M.cell (k:=1) rfl;have m2:wc.cell? ⟨gm,2,none⟩=some (.int .i64 L):=M.cell (k:=2) rfl;have m3:wc.cell? ⟨gm,3,none⟩=some (.slice none 0 0):=M.cell (k:=3) rfl;have m4:wc.cell? ⟨gm,4,none⟩=some (.slice none 0 0):=M.cell (k:=4) rfl;have m5:wc.cell? ⟨gm,5,none⟩=some (.slice none 0 0):=M.cell (k:=5) rfl;have v3:=zh M;have t4:=zh o3;clear M o3 hW hH hL a8
   go_wp2_with fail
   refine (qnodes_calls W H L _ _ _ _ (by omega) (by omega)).mono ?_;rintro e w8 ⟨rfl,n2⟩;have a4:zc wc w8:=n2;have f3:zc w1 w8:=i4.trans a4;have j1:Hid (zP B w8 gd):=t4.out.ext a4 (DG g5 i4.size);have v4:Hid (zg w8 gm 29 #[.int .i64 W,.int .i64 H,.int .i64 L,.slice none 0 0,.slice none 0 0,.slice none 0 0]):=v3.out.ext a4;obtain ⟨n,hn⟩:∃n:Nat,(n:Int)=W*H*L:=⟨(W*H*L).toNat,by omega⟩;rw [<-hn];have HN:=zh hn;have e9:2<=n/\n<=16:=by omega
   clear hn o8 m0 m1 m2 m3 m4 m5 n2 a4 i4
   go_wp2_with fail
   refine (zL 3 j1.out (by omega) (by omega)).mono ?_;rintro e w9 ⟨z9,rfl,s3,s4,o4,g6⟩;obtain ⟨many,d7⟩:∃many:Nat,(many:Int)=1+z9:=⟨(1+z9).toNat,by omega⟩;have q8:1<=many/\many<=3:=by omega
   have H9:Hid (MS B w9 w9.heap.size gm gd W H L n 0 0 (.slice none 0 0) (.slice none 0 0) (.slice none 0 0) [] []):=by
    have e7:B<=gm:=by have:=g3.out;have:=t5.out.size;omega
    have h0:MS B w8 w8.heap.size gm gd W H L n 0 0 (.slice none 0 0) (.slice none 0 0) (.slice none 0 0) [] []:=⟨DG g5 f3.size,DE _,v4.out,e7,j1.out,World.ownsRow_nil _ _ _ _,World.ownsRow_nil _ _ _ _,fun j hj=>by omega,fun j hj=>by omega⟩;have h1:=h0.drawn o4 g6;exact h1.ext (zc.refl _)
   have s1:zc w1 w9:=Below.grown f3 g6 f3.size (fun k U=>by injection U with U;have:=e0.out;omega);have k8:=zh s1;clear o4 g6 s1 f3
   go_wp2_with fail
   rw [<-d7];clear d7 s3 s4
   go_loopg [7] many (fun gk v wr=>∃(t:Nat) (vF vT:Value) (fs ts:List Value),v=.int .i64 t/\t<=many/\gk=many - t/\Hid (MS B wr wr.heap.size gm gd W H L n t t vF (.slice none 0 0) vT fs ts/\zc w1 wr))
   case atStart=>exact ⟨0,_,_,[],[],rfl,DS _,rfl,H9.out,k8.out⟩
   clear H9 k8
   case round=>
    obtain ⟨t,vF,vT,fs,ts,rfl,ht,rfl,E⟩:=hrel;obtain ⟨wR,rfl⟩:∃wR:World,wR=wr:=⟨_,rfl⟩;rcases Ea t many with h3 | hge
    ·skip
     have h4:B<=wR.heap.size:=E.out.1.hB;obtain ⟨ge,hge⟩:=EH wR.heap.size;have b6:=zh hge;have j3:Hid (zP B (wR.alloc (.cells #[.slice none 0 0,.int .i64 0] 67)) ge):=⟨by omega,_,0,[],zg.new _ _ _ hge,zl.nil _ _,by simp,by simp⟩;have f9:Hid (zg (wR.alloc (.cells #[.slice none 0 0,.int .i64 0] 67)) ge 67 #[.slice none 0 0,.int .i64 0]):=zg.new _ _ _ hge;have g0:Hid (zc wR (wR.alloc (.cells #[.slice none 0 0,.int .i64 0] 67))):=(zc.refl _).alloc _
     go_upto_if 64 with fail
     rw [<-hge];clear hge;generalize wR.alloc _=wa at*;go_cut [] (fun wx=>Hid (zc wR wx/\zP B wx ge))
     case first=>
      by_cases D:t+1<ls.length
      ·have h2:decide ((t:Int)+1<(ls.length:Int))=true:=DH (by omega);have d5:decide (t+1<ls.length)=true:=DH D;have f4:(t:Int)+1<(ls.length:Int):=by omega
       obtain ⟨b0,o0,u0,rfl,r3,a7,d8⟩:=Bt HR.out HE.out D D;have HU:=zh d8;obtain ⟨A0,c0,rfl,n3,-⟩:=d8;have q0:=zc.rule a7;have s0:zc w wR:=a9.out.trans E.out.2;have f2:zc w wa:=s0.trans g0.out;have x3:=zh f2;have D2:wa.cell? ⟨ge,0,none⟩=some (.slice none 0 0):=f9.out.cell (k:=0) rfl;have D4:wa.frozen? ⟨ge,0,none⟩=false:=f9.out.frozen 0;clear a7 s0
       go_wp2_with fail
       go_meet;have z7:wR.heap.size<=ge:=by have:=b6.out;omega
       have z8:w.heap.size<=ge:=by have:=b6.out;have:=(Below.size (a9.out.trans E.out.2));omega
       refine ⟨g0.out.setCell (p:=⟨ge,0,none⟩) z7 _,by have:=b6.out;omega,_,0,ls[t+1],f9.out.set (k:=0) _,?_,k3.out _ (DF D),DS _⟩;exact (zl.keep HU.out (zZ.of_below (x3.out.setCell (p:=⟨ge,0,none⟩) z8 _))).weaken fun b hb=>by have:=hb.2;have:=c7.out.2;have:=HB.out;omega
      ·have h2:decide ((t:Int)+1<(ls.length:Int))=false:=DI (by omega);have d5:decide (t+1<ls.length)=false:=DI D;have f4:¬ (t:Int)+1<(ls.length:Int):=by omega
       have HZ:=zh D;clear D
       go_wp2_with fail
       go_meet;exact ⟨g0.out,j3.out⟩
     case rest=>
      obtain ⟨i5,o7⟩:=hcut.out;have g4:=zh i5;have j2:=zh o7;clear hcut o7 j3;obtain ⟨w6,rfl⟩:∃w6:World,w6=wc:=⟨_,rfl⟩;have x5:B<=w6.heap.size:=DG h4 i5.size;have A3:ge<w6.heap.size:=j2.out.lt;have h5:t<3:=by omega
      have r4:(t:Int)<3:=by omega
      have r5:(0:Int)<=(t:Int):=by omega
      clear i5
      go_wp2_with fail
      refine r16_wp j2 x5 A3 h5 r4 r5 e9 ?hQ16
      case hQ16=>
       intro v W hJ _;obtain ⟨s,g7,g11,gt,x1,x2,B0,B1,r8,f5,m8⟩:=hJ.fin h4 g4.out.size (by have:=b6.out;omega);have l4:zc wR W:=Below.grown g4.out hJ.gb g4.out.size (fun k U=>by injection U with U;have:=b6.out;omega);have e2:=zh m8;have j8:=zh l4;clear hJ m8 l4 B0 B1 r8;rw [f5];clear f5
       go_wp2_with fail
       refine (zL 3 e2.out.dr (by omega) (by omega)).mono ?_;rintro e wb ⟨z,rfl,s2,E2,o5,g8⟩;have b8:=zh (e2.out.drawn o5 g8);have b5:=zh (e2.out.drawnExt j8.out g8);clear o5 g8 e2 j8
       go_upto_if 88 with fail
       go_cut [] (fun wx=>∃(u1:Value) (l1:List Int),Hid (R1 B wx wR.heap.size ge gt n s u1 (.slice (some ⟨g11,0,none⟩) 1 1) l1 [x2]/\zc wR wx/\l1.length<=2))
       case first=>
        by_cases D:z=0
        ·have i6:(z==0)=true:=by rw [beq_iff_eq];exact D
         have HZ:=zh D;clear D
         go_wp2_with fail
         refine r18_wp b8 b5 e9 (fun c a a' W he h=>(show a'.defers=[]/\Aj w (.panicked c) W from ⟨he ▸ (show a.defers=[]/\Aj w (.panicked c) W from h).1,(show a.defers=[]/\Aj w (.panicked c) W from h).2⟩)) fun u1 l1 W h9 x89 x90 x91 x92 x93 x94 x95 x96=>?_
         go_wp2_with fail
         go_meet;exact ⟨_,_,h9⟩
        ·have i6:(z==0)=false:=by rw [DR];exact D
         have HZ:=zh D;clear D
         go_wp2_with fail
         go_meet;exact ⟨_,[x1],b8.out,b5.out,by simp⟩
       case rest=>
        obtain ⟨u1,l1,f0⟩:=hcut;have e3:=zh f0.out.1;have j5:=zh f0.out.2.1;have j9:=zh f0.out.2.2;clear f0
        go_wp2_with fail
        refine (zL 3 e3.out.dr (by omega) (by omega)).mono ?_;rintro e wq ⟨zz,rfl,C7,C8,o9,g9⟩;have b9:=zh (e3.out.drawn o9 g9);have b3:=zh (e3.out.drawnExt j5.out g9);clear o9 g9 e3 j5 b8 b5
        go_upto_if 99 with fail
        go_cut [] (fun wx=>∃(u2:Value) (l2:List Int),Hid (R1 B wx wR.heap.size ge gt n s u1 u2 l1 l2/\zc wR wx/\l2.length<=2))
        case first=>
         by_cases D:zz=0
         ·have i6:(zz==0)=true:=by rw [beq_iff_eq];exact D
          have HZ:=zh D;clear D
          go_wp2_with fail
          refine r20_wp b9 b3 e9 (fun c a a' W he h=>(show a'.defers=[]/\Aj w (.panicked c) W from ⟨he ▸ (show a.defers=[]/\Aj w (.panicked c) W from h).1,(show a.defers=[]/\Aj w (.panicked c) W from h).2⟩)) fun u2 l2 W h9 x100 x101 x102 x103 x104 x105 x106 x107=>?_
          go_wp2_with fail
          go_meet;exact ⟨_,_,h9⟩
         ·have i6:(zz==0)=false:=by rw [DR];exact D
          have HZ:=zh D;clear D
          go_wp2_with fail
          go_meet;exact ⟨_,[x2],b9.out,b3.out,by simp⟩
        case rest=>
         obtain ⟨u2,l2,f1⟩:=hcut;have v9:=zh f1.out.1;have j7:=zh f1.out.2.1;have k2:=zh f1.out.2.2;obtain ⟨w7,rfl⟩:∃w7:World,w7=wc:=⟨_,rfl⟩;have i8:Hid (OwnB w7 w7.heap.size (.slice none 0 0) []):=World.ownsRow_nil _ _ _ _;clear f1 b9 b3
         go_wp2_with fail
         go_loopg [10,11] n (fun gk vf v wr=>∃(k:Nat) (lf:List Bool),v=.int .i64 k/\k<=n/\gk=n - k/\lf.length=k/\Hid (R1 B wr wR.heap.size ge gt n s u1 u2 l1 l2/\zc wR wr/\OwnB wr w7.heap.size vf lf/\w7.heap.size<=wr.heap.size))
         case atStart=>exact ⟨0,[],rfl,DS _,rfl,rfl,v9.out,j7.out,i8.out,DE _⟩
         clear i8
         case round=>
          obtain ⟨k,lf,rfl,U,rfl,q6,hQ⟩:=hrel;have e4:=zh j7.out.size;have e1:=zh q6;have A4:lf.length<=16:=by omega
          clear q6;rcases Ea k n with d6 | hge2
          ·skip
           go_wp2_with fail
           refine (zL 6 hQ.out.1.dr (by omega) (by omega)).mono ?_;rintro e wd ⟨x,rfl,f2,i3,o6,Q⟩;have a2:=zh (hQ.out.1.drawn o6 Q);have g1:=zh (hQ.out.1.drawnExt hQ.out.2.1 Q)
           have a1:Hid (OwnB wd w7.heap.size u10 lf):=Az hQ.out.2.2.1 fun g G=>Q.block g (World.ownsRow.lt hQ.out.2.2.1 g G).2 (fun e=>by
            obtain ⟨cs,hb⟩:=hQ.out.1.dr.blk;injection e with e;subst e;exact zf hQ.out.2.2.1 hb (by decide) G)
           have A6:w7.heap.size<=wd.heap.size:=DG hQ.out.2.2.2 Q.size;clear o6 Q;obtain ⟨Af,cf,rfl,D3,-⟩:=a1.out.bools;have D6:(0:Int)<=(k:Int):=by omega
           have B8:wd.cell? ⟨gt,1,none⟩=some u1:=a2.out.tk.cell (k:=1) rfl;have B9:wd.cell? ⟨gt,2,none⟩=some u2:=a2.out.tk.cell (k:=2) rfl;by_cases hx:0<x
           ·have B2:decide (0<x)=true:=DH hx
            go_wp2_with (at_builtin;refine wpList_append_own_at _ rfl _ _ 26 rfl w7.heap.size 4 iB (.bool false) 1 1 Tryz.underlying26 BF.out BZ0.out BZ1.out BZ2.out rfl (by decide) (.slice Af lf.length cf) lf.length _ rfl (World.ownsRow.alloc a1.out _) ⟨wd.heap.size,0,none⟩ 1 1 [.bool true] rfl rfl (cell_one_new _ _ _) (by simp [Value.oneCell']) (by unfold maxLen;omega) (by omega) (by simp;omega) ?_)
            intro v' w9 d G _ K;obtain ⟨V,O⟩:=a2.out.grownB a1.out e4.out G;have c6:=zh V;have b4:Hid (zc wR w9):=Below.trans g1.out O;have c8:Hid (w7.heap.size<=w9.heap.size):=by have:=G.size;simp at this;show _<=_;omega
            have b7:Hid (OwnB w9 w7.heap.size v' (lf++[true])):=OwnB.app d;clear V O d G K
            go_wp2_with fail
            go_roundg (n - (k+1))
            case measure=>omega
            case rel=>exact ⟨k+1,lf++[true],by go_num,d6,rfl,by have:=e1.out;simp;omega,c6.out,b4.out,b7.out,c8.out⟩
           ·have B2:decide (0<x)=false:=DI hx
            go_wp2_with fail
            refine (has_calls (k:Int) wd (Bc.of_own a2.out.o1) (by have:=j9.out;omega)).mono ?_;rintro e w' ⟨rfl,rfl⟩;generalize decide ((k:Int)∈l1)=b1
            cases b1 with
            | true=>
             go_wp2_with (at_builtin;refine wpList_append_own_at _ rfl _ _ 26 rfl w7.heap.size 4 iB (.bool false) 1 1 Tryz.underlying26 BF.out BZ0.out BZ1.out BZ2.out rfl (by decide) (.slice Af lf.length cf) lf.length _ rfl (World.ownsRow.alloc a1.out _) ⟨wd.heap.size,0,none⟩ 1 1 [.bool true] rfl rfl (cell_one_new _ _ _) (by simp [Value.oneCell']) (by unfold maxLen;omega) (by omega) (by simp;omega) ?_)
             intro v' w9 d G _ K;obtain ⟨V,O⟩:=a2.out.grownB a1.out e4.out G;have c6:=zh V;have b4:Hid (zc wR w9):=Below.trans g1.out O;have c8:Hid (w7.heap.size<=w9.heap.size):=by have:=G.size;simp at this;show _<=_;omega
             have b7:Hid (OwnB w9 w7.heap.size v' (lf++[true])):=OwnB.app d;clear V O d G K
             go_wp2_with fail
             go_roundg (n - (k+1))
             case measure=>omega
             case rel=>exact ⟨k+1,lf++[true],by go_num,d6,rfl,by have:=e1.out;simp;omega,c6.out,b4.out,b7.out,c8.out⟩
            | false=>
             go_wp2_with fail
             refine (has_calls (k:Int) wd (Bc.of_own a2.out.o2) (by have:=k2.out;omega)).mono ?_;rintro e w' ⟨rfl,rfl⟩;generalize decide ((k:Int)∈l2)=b2
             go_wp2_with (at_builtin;refine wpList_append_own_at _ rfl _ _ 26 rfl w7.heap.size 4 iB (.bool false) 1 1 Tryz.underlying26 BF.out BZ0.out BZ1.out BZ2.out rfl (by decide) (.slice Af lf.length cf) lf.length _ rfl (World.ownsRow.alloc a1.out _) ⟨wd.heap.size,0,none⟩ 1 1 [.bool b2] rfl rfl (cell_one_new _ _ _) (by simp [Value.oneCell']) (by unfold maxLen;omega) (by omega) (by simp;omega) ?_)
             intro v' w9 d G _ K;obtain ⟨V,O⟩:=a2.out.grownB a1.out e4.out G;have c6:=zh V;have b4:Hid (zc wR w9):=Below.trans g1.out O;have c8:Hid (w7.heap.size<=w9.heap.size):=by have:=G.size;simp at this;show _<=_;omega
             have b7:Hid (OwnB w9 w7.heap.size v' (lf++[b2])):=OwnB.app d;clear V O d G K
             go_wp2_with fail
             go_roundg (n - (k+1))
             case measure=>omega
             case rel=>exact ⟨k+1,lf++[b2],by go_num,d6,rfl,by have:=e1.out;simp;omega,c6.out,b4.out,b7.out,c8.out⟩
          ·skip
           have q4:k=n:=by omega
           have t7:=zh q4;have C0:decide (k<n)=false:=DI (by omega);have C1:decide ((k:Int)<(n:Int))=false:=DI (by omega);have C2:¬ k<n:=by omega
           clear q4 hge2;have e5:=E.out.1.ext hQ.out.2.1;have m5:wr.cell? ⟨gm,5,none⟩=some vT:=e5.mz.cell (k:=5) rfl;have hf:=fun j=>e5.mz.frozen j
           have c9:∀j,wr.frozen? ⟨gm,j,none⟩=false:=hf;obtain ⟨A1,c1,rfl,-⟩:=AW hQ.out.1.o1;obtain ⟨A2,c2,rfl,-⟩:=AW hQ.out.1.o2;have t0:wr.cell? ⟨gt,0,none⟩=some (.string s):=hQ.out.1.tk.cell (k:=0) rfl;have t1:wr.cell? ⟨gt,1,none⟩=some (.slice A1 l1.length c1):=hQ.out.1.tk.cell (k:=1) rfl;have t2:wr.cell? ⟨gt,2,none⟩=some (.slice A2 l2.length c2):=hQ.out.1.tk.cell (k:=2) rfl;have a0:=zh e5;clear e5 hf
           go_wp2_with (at_builtin;refine wpList_append_own_at _ rfl _ _ 27 rfl B 72 iT (.agg #[.string ⟨#[]⟩,.slice none 0 0,.slice none 0 0]) 3 64 Tryz.underlying27 TF.out TZ0.out TZ1.out TZ2.out rfl (by decide) vT t _ rfl (a0.out.T.alloc _) ⟨wr.heap.size,0,none⟩ 1 1 [.string s,.slice A1 l1.length c1,.slice A2 l2.length c2] rfl rfl (cells3n _ _ _ _ _) (by simp [Value.oneCell']) (by unfold maxLen;omega) (by omega) (by have:=a0.out.hB;simp;omega) ?_)
           intro v' w9 d G _ K;obtain ⟨gv,cv,rfl,-,-⟩:=World.ownsRow.form d (by omega);obtain ⟨l5,m7,n0⟩:=a0.out.end1 hQ.out.1 j9.out k2.out hQ.out.2.2.1 d G;have o:w9.heap[gm]?=wr.heap[gm]?:=(G.block gm (by have:=za a0.out.mz;simp;omega) (fun e=>zf a0.out.T a0.out.mz (by decide) e.symm)).trans (DW _ _ _ (za a0.out.mz));have n4:w9.cell? ⟨gm,5,none⟩=some vT:=(DT (a:=⟨gm,5,none⟩) o).trans m5;have p3:w9.frozen? ⟨gm,5,none⟩=false:=(Ec (a:=⟨gm,5,none⟩) o).trans (c9 5);have I:=zh l5;have k5:=zh m7;have j4:Hid (zc w1 (w9.setCell ⟨gm,5,none⟩ (.slice (some ⟨gv,0,none⟩) (t+1) cv))):=Below.trans (zc.trans E.out.2 hQ.out.2.1) (HB.out ▸ n0);clear l5 m7 n0 d G K o m5 c9 t0 t1 t2;go_upto_region 27 with fail;clear n4 p3;generalize w9.setCell ⟨gm,5,none⟩ (.slice (some ⟨gv,0,none⟩) (t+1) cv)=wv at*;obtain ⟨Af,cf,rfl,-,-⟩:=k5.out.bools;have m3:wv.cell? ⟨gm,3,none⟩=some vF:=I.out.mz.cell (k:=3) rfl;have c9:∀j,wv.frozen? ⟨gm,j,none⟩=false:=fun j=>I.out.mz.frozen j
           have t8:Hid (∀g,(Value.slice Af lf.length cf).ownBlock=some g->g<wr.heap.size):=fun g G=>(World.ownsRow.lt hQ.out.2.2.1 g G).2
           go_wp2_with (at_builtin;refine wpList_append_own_at _ rfl _ _ 25 rfl B 26 iL (.slice none 0 0) 1 24 Tryz.underlying25 LF.out LZ0.out LZ1.out LZ2.out rfl (by decide) vF t _ rfl (I.out.F.alloc _) ⟨wv.heap.size,0,none⟩ 1 1 [.slice Af lf.length cf] rfl rfl (cell_one_new _ _ _) (by simp [Value.oneCell']) (by unfold maxLen;omega) (by omega) (by have:=I.out.hB;simp;omega) ?_)
           intro v2 w9 d G _ K;obtain ⟨gv2,cv2,rfl,-,-⟩:=World.ownsRow.form d (by omega);obtain ⟨l6,n1⟩:=I.out.end2 k5.out (e1.out.trans t7.out) (DG h4 e4.out) t8.out d G;have o:w9.heap[gm]?=wv.heap[gm]?:=(G.block gm (by have:=za I.out.mz;simp;omega) (fun e=>zf I.out.F I.out.mz (by decide) e.symm)).trans (DW _ _ _ (za I.out.mz));have n4:w9.cell? ⟨gm,3,none⟩=some vF:=(DT (a:=⟨gm,3,none⟩) o).trans m3;have p3:w9.frozen? ⟨gm,3,none⟩=false:=(Ec (a:=⟨gm,3,none⟩) o).trans (c9 3);have t9:=zh l6;have j6:Hid (zc w1 (w9.setCell ⟨gm,3,none⟩ (.slice (some ⟨gv2,0,none⟩) (t+1) cv2))):=Below.trans j4.out (HB.out ▸ n1);clear l6 n1 d G K o m3 c9
           go_wp2_with fail
           go_roundg (many - (t+1))
           case measure=>omega
           case rel=>exact ⟨t+1,_,_,_,_,by go_num,h3,rfl,t9.out,j6.out⟩
    ·skip
     have A9:t=many:=by omega
     subst A9;have C5:decide (t<t)=false:=DI (by omega);have l0:0<t:=by omega
     obtain ⟨gT,cT,rfl,p8,-⟩:=World.ownsRow.form E.out.1.T l0;obtain ⟨gF,cF,rfl,p7,-⟩:=World.ownsRow.form E.out.1.F l0;have HcT:=zh (Bq E.out.1.T);have HcF:=zh (Bq E.out.1.F);clear hge;have l7:=zh (E.out.1);have m9:=zh (E.out.2);clear E
     go_wp2_with fail
     have l9:Hid (MS B wR wR.heap.size gm gd W H L n t t (.slice (some ⟨gF,0,none⟩) t cF) (.slice none 0 0) (.slice (some ⟨gT,0,none⟩) t cT) fs ts/\zc w1 wR):=⟨l7.out,m9.out⟩;clear l7 m9;refine loop12_wp HB p8 p7 HcT HcF e9 q8 l9 (fun c a a' W he h=>(show a'.defers=[]/\Aj w (.panicked c) W from ⟨he ▸ (show a.defers=[]/\Aj w (.panicked c) W from h).1,(show a.defers=[]/\Aj w (.panicked c) W from h).2⟩)) fun wA hA x13 x14 x143 x144 x145 x146 x147 x148 x149 x150 x151 x152 x153 x154 x155 x156 x157 x158 x159 x160 x161 x162 x163 x164 x165 x166 x167 x168 x169 x170 x171 x172 x173 x174 x175 x176 x177 x178 x179 x180 x181 x182 x183 x184 x185 x186 x187 x188 x189 x190 x191 x192 x193 x194 x195 x196 x197 x198 x199 x200 x201 x202 x203 x204 x205=>?_;clear l9;obtain ⟨a,z6⟩:=EH t;subst z6
     go_wp2_with fail
     have hA0:=hA.out;obtain ⟨S,hS⟩:=EH wA.heap.size;have k6:Hid (RU w1 B wA S gm gd W H L n a a (.slice (some ⟨gF,0,none⟩) a cF) (.slice none 0 0) (.slice (some ⟨gT,0,none⟩) a cT) fs ts []):=⟨HB.out,hS ▸ hA0.1.hB,hS ▸ hA0.1,World.ownsRow_nil _ _ _ _,hA0.2⟩;clear hA0 hS hA
     go_loopg [15] n (fun gk v wr=>∃(i:Nat) (vU:Value) (us:List Bool),v=.int .i64 i/\i<=n/\gk=n - i/\us.length=i/\Hid (RU w1 B wr S gm gd W H L n a a (.slice (some ⟨gF,0,none⟩) a cF) vU (.slice (some ⟨gT,0,none⟩) a cT) fs ts us))
     case atStart=>exact ⟨0,_,[],rfl,DS _,rfl,rfl,k6.out⟩
     clear k6
     case round=>
      obtain ⟨i,vU,us,rfl,hi,rfl,h6,hQ⟩:=hrel;obtain ⟨wU,rfl⟩:∃wU:World,wU=wr:=⟨_,rfl⟩;rcases Ea i n with hin | hin
      ·have q2:decide (i<n)=true:=DH hin;have q3:decide ((i:Int)<(n:Int))=true:=DH (by omega);have C9:Hid (zc w1 wU):=hQ.out.ex;have r6:us.length<=16:=by omega
       have x0:=zh h6;clear h6;go_upto_region 42 with fail;refine r42_wp hQ r6 (fun c a a' W he h=>(show a'.defers=[]/\Aj w (.panicked c) W from ⟨he ▸ (show a.defers=[]/\Aj w (.panicked c) W from h).1,(show a.defers=[]/\Aj w (.panicked c) W from h).2⟩)) fun vU' x w2 h9 x211 x212 x213 x214 x215 x216 x217 x218=>?_;have v8:=zh h9;clear h9
       go_wp2_with fail
       go_roundg (n - (i+1))
       case measure=>omega
       case rel=>exact ⟨i+1,_,_,by go_num,hin,rfl,by rw [DM,x0.out];rfl,v8.out⟩
      ·have q2:decide (i<n)=false:=DI (by omega);have q3:decide ((i:Int)<(n:Int))=false:=DI (by omega);have r7:us.length=n:=by omega
       obtain ⟨Au,cu,r9,-,-⟩:=OwnB.bools hQ.out.ow;rw [h6] at r9;subst r9;have a3:=k7.out;obtain ⟨mm,nn,q9,l8,m6⟩:=RU.maze hQ.out a3.1 a3.2.1 a3.2.2 HN.out q8 r7;have v6:=zh q9;have v5:=zh l8;have v7:=zh m6;have J:zg wU w.heap.size 29 #[.int .i64 0,.int .i64 0,.int .i64 0,.slice none 0 0,.slice none 0 0,.slice none 0 0]:=c7.out.1.ext hQ.out.ex;have z0:wU.cell? ⟨w.heap.size,0,none⟩=some (.int .i64 0):=J.cell (k:=0) rfl;have z1:wU.cell? ⟨w.heap.size,1,none⟩=some (.int .i64 0):=J.cell (k:=1) rfl;have z2:wU.cell? ⟨w.heap.size,2,none⟩=some (.int .i64 0):=J.cell (k:=2) rfl;have z3:wU.cell? ⟨w.heap.size,3,none⟩=some (.slice none 0 0):=J.cell (k:=3) rfl;have z4:wU.cell? ⟨w.heap.size,4,none⟩=some (.slice none 0 0):=J.cell (k:=4) rfl;have z5:wU.cell? ⟨w.heap.size,5,none⟩=some (.slice none 0 0):=J.cell (k:=5) rfl;have hfz:∀j,wU.frozen? ⟨w.heap.size,j,none⟩=false:=fun j=>J.frozen j
       have m0:wU.cell? ⟨gm,0,none⟩=some (.int .i64 W):=hQ.out.ms.mz.cell (k:=0) rfl;have m1:wU.cell? ⟨gm,1,none⟩=some (.int .i64 H):=hQ.out.ms.mz.cell (k:=1) rfl;have m2:wU.cell? ⟨gm,2,none⟩=some (.int .i64 L):=hQ.out.ms.mz.cell (k:=2) rfl;have m3:wU.cell? ⟨gm,3,none⟩=some (.slice (some ⟨gF,0,none⟩) a cF):=hQ.out.ms.mz.cell (k:=3) rfl;have m4:wU.cell? ⟨gm,4,none⟩=some (.slice Au i cu):=hQ.out.ms.mz.cell (k:=4) rfl;have m5:wU.cell? ⟨gm,5,none⟩=some (.slice (some ⟨gT,0,none⟩) a cT):=hQ.out.ms.mz.cell (k:=5) rfl;have s5:=zh J;have t6:Hid (zc w1 wU):=hQ.out.ex;clear a3 q9 l8 m6 J r7 hin hQ
       go_wp2_with fail
       refine case_fin (P:=fun W=>bodyPost Tryz.prog Tryz.f7 (Aj w) Exit.ret _ W) (g2:=w.heap.size) ?_ s5.out;intro WZ a6 x6 U;have y0:WZ.cell? ⟨w.heap.size,0,none⟩=some (.int .i64 W):=a6.cell (k:=0) rfl;have y1:WZ.cell? ⟨w.heap.size,1,none⟩=some (.int .i64 H):=a6.cell (k:=1) rfl;have y2:WZ.cell? ⟨w.heap.size,2,none⟩=some (.int .i64 L):=a6.cell (k:=2) rfl;have y3:WZ.cell? ⟨w.heap.size,3,none⟩=some (.slice (some ⟨gF,0,none⟩) a cF):=a6.cell (k:=3) rfl;have y4:WZ.cell? ⟨w.heap.size,4,none⟩=some (.slice Au i cu):=a6.cell (k:=4) rfl;have y5:WZ.cell? ⟨w.heap.size,5,none⟩=some (.slice (some ⟨gT,0,none⟩) a cT):=a6.cell (k:=5) rfl;have B3:zc w wU:=a9.out.trans t6.out;have A5:=v6.out.keepW (w':=WZ) (ok':=fun b=>w.heap.size<=b) (fun b hb h3=>U b h3 (by have:=c7.out.2;have:=HB.out;omega)) (fun b hb=>by have:=c7.out.2;have:=HB.out;omega)
       exact Ev (v:=.agg #[.int .i64 W,.int .i64 H,.int .i64 L,.slice (some ⟨gF,0,none⟩) a cF,.slice Au i cu,.slice (some ⟨gT,0,none⟩) a cT]) (by simp [results,Tryz.results7,go_sem,y0,y1,y2,y3,y4,y5]) rfl
        ⟨_,mm,nn,rfl,Below.trans B3 x6,A5,v5.out,v7.out⟩
theorem samePaths_t {v':Value} {a b:List (List Int)} (w:World) (d:a=b) (h:zV w ok v a) (B:zV w ok' v' b) (E:a.length<=1000) (o:∀x∈a,x.length<=1000):
  Calls Tryz.prog 11 #[v,v'] w fun e w'=>e=.returned (.bool true)/\zB w w':=by
 refine (samePaths_calls w h B (by omega) (by rw [<-d];omega) (fun x h=>by have:=o x h;omega) (fun x h=>by have:=o x (by rw [d];exact h);omega)).mono ?_;rintro e w' ⟨rfl,D⟩;exact ⟨by rw [DH d],D⟩
theorem Ai.bound {w:World} {X Y:Nat->Prop} {g gr cap:Nat} {m:MZ} {s:RS} {pt:List Nat} (h:Ai w X Y g gr cap m s pt):Ai w (fun k=>X k/\k<w.heap.size) Y g gr cap m s pt:=
 ⟨h.blk,⟨h.xg,za h.blk⟩,⟨h.xr,(h.row.1.lt gr rfl).2⟩,h.ne,h.yg,h.yr,h.row.1,h.row.2.1,fun k p hp=>(h.row.2.2 k p hp).bound.weaken fun b hb=>by
  rcases hb with ⟨hb | hb,d⟩
  ·exact .inl ⟨⟨hb.1,d⟩,hb.2⟩
  ·exact .inr hb⟩
theorem Ai.chg {w w':World} {X Y X':Nat->Prop} {g gr cap:Nat} {m:MZ} {s:RS} {pt:List Nat} (h:Ai w X Y g gr cap m s pt) (o:zk X' w w') (B:∀k,X k\/Y k->¬ X' k):Ai w' X Y g gr cap m s pt:=
 h.same fun b d D=>o.block b d (B b D)
structure RtB (w:World) (X Y:Nat->Prop) (g:Nat) (m:MZ) (s:RS):Prop where
 rt:∃gr cap pt,Ai w X Y g gr cap m s pt
 xb:∀k,X k->k<w.heap.size
 yb:∀k,Y k->k<w.heap.size
 good:zX m
 lens:Lens m
 ch:zG m s.ch
 st:0<=s.steps
section
variable {w w':World} {X Y X':Nat->Prop} {g:Nat} {m:MZ} {s:RS}
theorem RtB.chg (h:RtB w X Y g m s) (d:zk X' w w') (J:∀k,X k\/Y k->¬ X' k):RtB w' X Y g m s:=by
 obtain ⟨⟨gr,cap,pt,K⟩,h1,B,D,E,G,I⟩:=h;exact ⟨⟨gr,cap,pt,K.chg d J⟩,fun k o=>Ef (h1 k o) d.size,fun k o=>Ef (B k o) d.size,D,E,G,I⟩
theorem RtB.ext (h:RtB w X Y g m s) (d:zc w w'):RtB w' X Y g m s:=h.chg (zk.of_ext (X:=fun _=>False) d) (fun _ _ h=>h)
theorem RtB.step (h:RtB w X Y g m s) (n:Nat) (s':RS) (d:Bool) (U:s'.done=d) (G:RS.run m n s=s') (V:n<=1000000) (I:s.steps<=3000000000000000000):
  Calls Tryz.prog 17 #[.pointer (some ⟨g,0,none⟩),.int .i64 n] w fun e w'=>e=.returned (.bool d)/\RtB w' (fun k=>X k\/(w.heap.size<=k/\k<w'.heap.size)) Y g m s'/\zk X w w':=by
 obtain ⟨⟨gr,cap,pt,hr⟩,h1,J,K,M,D,O⟩:=h;refine (stepN_calls (X:=fun k=>X k\/w.heap.size<=k) n w (hr.widen fun _ h=>.inl h) K M D V O I (fun _ h=>.inr h) J).mono ?_;rintro e w' ⟨rfl,gr',cap',pt',B,o⟩;rw [G] at B⊢;refine ⟨by rw [U],⟨⟨gr',cap',pt',B.bound.widen ?_⟩,?_,?_,K,M,?_,?_⟩,?_⟩
 ·rintro k ⟨hk | hk,E⟩
  ·exact .inl hk
  ·exact .inr ⟨hk,E⟩
 ·rintro k (hk | hk)
  ·exact Ef (h1 k hk) o.size
  ·exact hk.2
 ·exact fun k hk=>Ef (J k hk) o.size
 ·rw [<-G];exact run_isCh n D
 ·have:=run_steps (m:=m) n D;rw [G] at this;omega
 ·exact ⟨o.os,o.tape,o.output,o.size,fun b Q hx=>o.block b Q (by
   rintro (h | h)
   ·exact hx h
   ·omega)⟩
theorem RtB.fb (h:RtB w X Y g m s):∀k,X k\/Y k->k<w.heap.size:=fun k d=>d.elim (h.xb k) (h.yb k)
theorem RtB.choices (h:RtB w X Y g m s):Calls Tryz.prog 19 #[.pointer (some ⟨g,0,none⟩)] w fun e w'=>∃v',e=.returned v'/\Mk w w' v' s.ch:=by
 obtain ⟨⟨gr,cap,pt,B⟩,h1,D,d,E,o,G⟩:=h;exact choices_c w B (by have:=o.len300 d;omega)
theorem RtB.stepsC (h:RtB w X Y g m s):Calls Tryz.prog 18 #[.pointer (some ⟨g,0,none⟩)] w fun e w'=>e=.returned (.int .i64 s.steps)/\w=w':=by
 obtain ⟨⟨gr,cap,pt,d⟩,h1,o,B,D,E,G⟩:=h;exact steps_c w d
theorem RtB.found (h:RtB w X Y g m s):Calls Tryz.prog 35 #[.pointer (some ⟨g,0,none⟩)] w (FoundPost w m s.ch):=by
 obtain ⟨⟨gr,cap,pt,D⟩,h1,E,d,o,B,G⟩:=h;exact found_c w D d o B
end
end
section
open Go.RowKit
structure RInv (m:MZ) (s:RS):Prop where
 ch:zG m s.ch
 st:0<=s.steps
 dn:s.done=(loadS m s.ch s.steps).done
 op:s.ch≠[]->Be m s.ch=true
theorem rinv_load {m:MZ}:RInv m (loadS m [] 0):=⟨.nil,Int.le_refl _,rfl,fun h=>absurd rfl h⟩
theorem RInv.one {m:MZ} {s:RS} (h:RInv m s):RInv m (s.one m):=by
 unfold RS.one
 split
 ·rename_i c B
  obtain ⟨h1,d,o⟩:=stepC_some h.ch B;refine ⟨h1,by have:=h.st;show 0<=s.steps+1;omega,?_,fun _=>o⟩;show Bk m c=(Bk m c || (decide (c=[]) && decide (0<s.steps+1)));have:decide (c=[])=false:=DI (by rintro rfl;simp at d);rw [this,Bool.false_and,Bool.or_false]
 ·refine ⟨.nil,by have:=h.st;show 0<=s.steps+1;omega,?_,fun h=>absurd rfl h⟩;show true=(Bk m [] || (decide (([]:List Int)=[]) && decide (0<s.steps+1)));have h1:decide (0<s.steps+1)=true:=DH (by have:=h.st;omega);rw [h1];simp
theorem RInv.run {m:MZ}:∀(n:Nat) {s:RS},RInv m s->RInv m (RS.run m n s)
 | 0,s,h=>h
 | n+1,s,h=>by
  unfold RS.run
  split
  ·exact h
  ·exact RInv.run n h.one
theorem RInv.loadE {m:MZ} {s:RS} (h:RInv m s) (d:BS m=0):loadE m s.ch s.steps=0:=by
 unfold Go.Proofs.YtfjjdmpndmbfoaaGreatDoor.loadE;rw [d,if_neg (by simp),if_neg (by have:=h.st;omega),if_pos];rw [AV.2 h.ch,Bool.true_and,EC,DO];by_cases h0:s.ch=[]
 ·exact .inl h0
 ·exact .inr (h.op h0)
theorem RInv.loadS {m:MZ} {s:RS} (h:RInv m s):loadS m s.ch s.steps=s:=by
 obtain ⟨c,d,n⟩:=s;have h1:d=(Bk m c || (decide (c=[]) && decide (0<n))):=h.dn;show RS.mk c (Bk m c || (decide (c=[]) && decide (0<n))) n=RS.mk c d n;rw [<-h1]
theorem RInv.open {m:MZ} {s:RS} (h:RInv m s) (d:BS m=0) (o:s.ch≠[]):openO m s.ch=true:=by
 unfold openO okC;rw [AV.2 h.ch,h.op o,DH d];rfl
theorem RInv.done {m:MZ} {s:RS} (h:RInv m s) (B:s.done=true) (o:Bk m s.ch=false):s.ch=[]:=by
 have h1:=h.dn;rw [B] at h1;unfold Go.Proofs.YtfjjdmpndmbfoaaGreatDoor.loadS at h1;simp only [o,Bool.false_or] at h1;have d:=h1.symm;rw [DQ,DO] at d;exact d.1
theorem loadB_calls {Y okc:Nat->Prop} {vc:Value} {m:MZ} {s:RS} (w:World) (hm:Ad w Y v m) (I:Lens m) (B:zl w okc vc s.ch) (E:s.ch.length<=20000000000000) (d:∀b,Y b->b<w.heap.size) (O:BS m=0) (hI:RInv m s):
  Calls Tryz.prog 31 #[v,vc,.int .i64 s.steps] w fun e w'=>∃g,e=.returned (.tuple #[.pointer (some ⟨g,0,none⟩),.int .i64 0])/\zc w w'/\RtB w' (fun k=>w.heap.size<=k/\k<w'.heap.size) Y g m s:=by
 refine (load_calls s.steps w hm I B E d).mono ?_;have o:=hI.loadE O;rintro e w' ⟨v',rfl,G,h | ⟨h1,K,M,g,gr,cap,pt,rfl,J⟩⟩
 ·exact absurd o h.1
 ·rw [hI.loadS] at J;exact ⟨g,by rw [o];rfl,G,⟨gr,cap,pt,J.bound⟩,fun k D=>D.2,fun k D=>Ef (d k D) G.size,K,I,M,hI.st⟩
structure OneX (w wr:World) (X:Nat->Prop) (g:Nat) (m:MZ) (s:RS):Prop where
 ext:zc w wr
 rt:RtB wr X (fun b=>b<w.heap.size) g m s
 lo:∀k,X k->w.heap.size<=k
 inv:RInv m s
section
variable {w wr w':World} {X X':Nat->Prop} {g g':Nat} {m:MZ} {s s':RS}
theorem OneX.more (h:OneX w wr X g m s) (d:zc wr w'):OneX w w' X g m s:=⟨h.ext.trans d,h.rt.ext d,h.lo,h.inv⟩
theorem OneX.other (h:OneX w wr X g m s) (o:∀k,X' k->w.heap.size<=k) (E:∀k,X k->¬ X' k) (B:zk X' wr w'):OneX w w' X g m s:=
 ⟨Below.trans h.ext (B.below h.ext.size o),h.rt.chg B (fun k d D=>d.elim (fun d=>E k d D) (fun d=>by have:=o k D;omega)),h.lo,h.inv⟩
theorem OneX.step (h:OneX w wr X g m s) (n:Nat) (D:n<=1000000) (o:s.steps<=3000000000000000000):
  Calls Tryz.prog 17 #[.pointer (some ⟨g,0,none⟩),.int .i64 n] wr fun e w'=>e=.returned (.bool (RS.run m n s).done)/\OneX w w' (fun k=>X k\/(wr.heap.size<=k/\k<w'.heap.size)) g m (RS.run m n s)/\zk X wr w':=by
 refine (h.rt.step n _ _ rfl rfl D o).mono ?_;rintro e w' ⟨rfl,E,B⟩;exact ⟨rfl,⟨Below.trans h.ext (B.below h.ext.size h.lo),E,fun k d=>d.elim (h.lo k) (fun d=>DG h.ext.size d.1),h.inv.run n⟩,B⟩
end
theorem found_len {m:MZ} {ch:List Int} (g:zX m) (B:Lens m) (o:zG m ch):(Cw m ch).length<=1000/\∀x∈Cw m ch,x.length<=1000:=by
 have d:=o.sok g B;unfold Cw
 split
 ·exact ⟨by have:=d.pl;have:=g.tk;omega,d.pp⟩
 ·exact ⟨by simp,fun x D=>by cases D⟩
end
section
open Go.RowKit
attribute [local go_sem ↓] Go.wp_at_zero Go.wp_at_succ
attribute [local go_sem] Oper.semAt_some
theorem intss_nil (w:World) (ok:Nat->Prop):zV w ok (.slice none 0 0) []:=⟨[],⟨none,0,rfl,DE _,AD.nil _ _ _ _⟩,fun i x d=>by simp at d⟩
end
section
open Go.RowKit
theorem lensL_all:∀{ks:List PT},(∀k∈ks,k.Lens)->PT.LensL ks
 | [],_=>by unfold PT.LensL;exact True.intro
 | k :: ks,h=>by
  unfold PT.LensL;exact ⟨h k (Eo ..),lensL_all fun x d=>h x (DY _ d)⟩
theorem CW:PT.zero.Lens:=by
 unfold PT.zero PT.Lens;exact ⟨by simp,by simp,lensL_all fun k d=>absurd d (Ey)⟩
theorem kidsR_lens {f:Int->Nat->Int×PT×Nat}:∀(l:List Int) (k:Nat) (acc:List PT),(∀n k,(f n k).2.1.Lens)->(∀p∈acc,p.Lens)->(∀p∈(zR f l k acc).2.1,p.Lens)/\(zR f l k acc).2.1.length<=acc.length+l.length
 | [],k,acc,_,d=>by unfold zR;exact ⟨d,Nat.le_add_right ..⟩
 | n :: l,k,acc,hf,d=>by
  unfold zR;by_cases h0:(f n k).1=0
  ·rw [if_pos h0]
   obtain ⟨h1,o⟩:=kidsR_lens l (f n k).2.2 (acc++[(f n k).2.1]) hf (fun p hp=>by
    rcases Es.1 hp with hp | hp
    ·exact d p hp
    ·rw [Ek.1 hp];exact hf n k)
   refine ⟨h1,?_⟩;simp only [DM,EF,EG] at o⊢;omega
  ·rw [if_neg h0];exact ⟨fun p hp=>absurd hp (Ey),by simp⟩
theorem sideP_len (m:MZ) (ch:List Int) (t:Nat):(Ce m ch t).length<=1000:=by
 unfold Ce reachO
 split
 ·rename_i h
  unfold Bv;refine DG (Eg _ _) ?_;have h1:=(zX.of h.1).dim.n1;have d:m.n=m.w*m.h*m.l:=rfl;simp;omega
 ·simp
theorem candO_len {m:MZ} (d:Lens m) (ch:List Int):(AE m ch).length<=400000000000:=by
 unfold AE
 split
 ·exact cand_len d ch
 ·simp
theorem proveP_lens {m:MZ} (d:Lens m):∀(f:Nat) (ch:List Int) (k:Nat),(zu m f ch k).2.1.Lens
 | 0,ch,k=>by unfold zu;exact CW
 | f+1,ch,k=>by
  unfold zu
  split
  ·exact CW
  ·split
   ·exact CW
   ·split
    ·rename_i t _
     show PT.Lens (.node t (Ce m ch t) []);unfold PT.Lens;have:=sideP_len m ch t;exact ⟨by omega,by simp,lensL_all fun k B=>absurd B (Ey)⟩
    ·obtain ⟨h1,o⟩:=kidsR_lens (f:=fun n k=>zu m f (ch++[n]) k) (AE m ch) (k+1) [] (fun n k=>proveP_lens d f _ k) (fun p hp=>absurd hp (Ey));have D:=candO_len d ch;simp only
     split
     ·show PT.Lens (.node _ [] _);unfold PT.Lens;refine ⟨by simp,?_,lensL_all h1⟩;simp only [EG] at o;omega
     ·exact CW
theorem makeP_lens {m:MZ} (d:Lens m):(zW m).2.Lens:=by
 unfold zW
 split
 ·exact proveP_lens d _ _ _
 ·exact CW
theorem hset {W:World} {g k:Nat} {x:Value}:∀b,b≠g->(W.setCell ⟨g,k,none⟩ x).heap[b]?=W.heap[b]?:=fun b d=>DN W ⟨g,k,none⟩ _ b d
theorem Ck.wk {w:World} {p:PT} (h:Ck w ok v p) (o:∀b,ok b->b<w.heap.size->ok' b):Ck w ok' v p:=h.bound.keepW (fun b d B=>rfl) (fun b d=>o b d.1 d.2)
end
end Go.Proofs.YtfjjdmpndmbfoaaGreatDoor
