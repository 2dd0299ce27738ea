import Derived.Test.YthbjngbhbbkkgaaGreatHRz
import Derived.Deep.LoopGhost
import Derived.Deep.AppendLies
import Derived.StillTailTactics
set_option linter.unusedVariables false
set_option linter.unusedSimpArgs false
set_option maxRecDepth 100000
set_option maxHeartbeats 16000000
namespace Go.Proofs.YthbjngbhbbkkgaaGreat
section
open Go.RowKit
attribute [local go_sem ↓] Go.wp_at_zero Go.wp_at_succ
def startsReg (n:Nat):Code->Bool
 | .region id _ _=>decide (id=n)
 | .seq a _=>startsReg n a
 | .block _ c=>startsReg n c
 | _=>false
def Dp (n:Nat):Code->Option Code
 | .loop c=>if startsReg n c=true then some (.loop c) else Dp n c
 | .seq a b=>match Dp n a with
  | some c=>some c
  | none=>Dp n b
 | .cond _ a b=>match Dp n a with
  | some c=>some c
  | none=>Dp n b
 | .block _ c=>Dp n c
 | _=>none
noncomputable def code12:Code:=(Tryz.f31.body.bind (Dp 29)).getD .skip
theorem loop12_wp {w1 wr0:World} {Q:Exit->Act->World->Prop} {B gm gd gF gT cF cT n t:Nat} {W H L:Int} {fs ts:List Value} {u0 u1 u2 u3 u7 u8 u9 u10 u11 u13 u14 u15 u16 u17 u18 u19 u20 u21 u22 u23 u24 u25 u26 u27 u28 u29 u30 u31 u32 u33 u34 u35 u36 u37 u38 u39 u40 u41 u42 u43 u44 u45 u46 u47 u48 u49 u50 u51 u52 u53 u54 u55 u56 u57 u58 u59 u60 u61 u62 u63 u64 u65 u66 u67 u68 u69 u70 u71 u72 u73 u74 u75 u76 u77 u78 u79 u80 u81 u82 u83 u84 u85 u86 u87 u88 u89 u90 u91 u92 u93 u94 u95 u96 u97 u98 u99 u100 u101 u102 u103 u104 u105 u106 u107 u108 u109 u110 u111 u112 u113 u114 u115 u116 u117 u118 u119 u120 u121 u122 u123 u124 u125 u126 u127 u128 u129 u130 u131 u132 u133 u134 u135 u136 u137 u138 u139 u140 u141 u142 u143 u144 u145 u146 u147 u148 u149 u150 u151 u152 u153 u154 u155 u156 u157 u158 u159 u160 u161 u162 u163 u164 u165 u166 u167 u168 u169 u170 u171 u172 u173 u174 u175 u176 u177 u178 u179 u180 u181 u182 u183 u184 u185 u186 u187 u188 u189 u190 u191 u192 u193 u194 u195 u196 u197 u198 u199 u200 u201 u202 u203 u204 u205 u206 u207 u208 u209 u210 u211 u212 u213 u214 u215 u216 u217 u218 u219:Value}
  (HB:Hid (B=w1.heap.size)) (e9:B<=gT) (e8:B<=gF) (HcT:Hid (t<=cT)) (HcF:Hid (t<=cF)) (f5:2<=n/\n<=16) (f4:1<=t/\t<=3)
  (hA0:Hid (MS B wr0 wr0.heap.size gm gd W H L n t t (.slice (some ⟨gF,0,none⟩) t cF) (.slice none 0 0) (.slice (some ⟨gT,0,none⟩) t cT) fs ts/\zb w1 wr0))
  (hP:∀c (a a':Act) w,a.defers=a'.defers->Q (.panic c) a w->Q (.panic c) a' w)
  (G:∀(w2:World),Hid (MS B w2 w2.heap.size gm gd W H L n t t (.slice (some ⟨gF,0,none⟩) t cF) (.slice none 0 0) (.slice (some ⟨gT,0,none⟩) t cT) fs ts/\zb w1 w2)->∀(x13 x14 x143 x144 x145 x146 x147 x148 x149 x150 x151 x152 x153 x154 x155 x156 x157 x158 x159 x160 x161 x162 x163 x164 x165 x166 x167 x168 x169 x170 x171 x172 x173 x174 x175 x176 x177 x178 x179 x180 x181 x182 x183 x184 x185 x186 x187 x188 x189 x190 x191 x192 x193 x194 x195 x196 x197 x198 x199 x200 x201 x202 x203 x204 x205:Value),Q (.exit 4) ⟨(u0 :: u1 :: u2 :: u3 :: Value.pointer (some ⟨gm,0,none⟩) :: Value.int .i64 (n:Nat) :: Value.int .i64 (t:Nat) :: u7 :: u8 :: u9 :: u10 :: u11 :: Value.int .i64 (t:Nat) :: x13 :: x14 :: u15 :: u16 :: u17 :: u18 :: u19 :: u20 :: u21 :: u22 :: u23 :: u24 :: u25 :: u26 :: u27 :: u28 :: u29 :: u30 :: u31 :: u32 :: u33 :: u34 :: u35 :: u36 :: u37 :: u38 :: u39 :: u40 :: u41 :: u42 :: u43 :: u44 :: u45 :: u46 :: u47 :: u48 :: u49 :: u50 :: u51 :: u52 :: u53 :: u54 :: u55 :: u56 :: u57 :: u58 :: u59 :: u60 :: u61 :: u62 :: u63 :: u64 :: u65 :: u66 :: u67 :: u68 :: u69 :: u70 :: u71 :: u72 :: u73 :: u74 :: u75 :: u76 :: u77 :: u78 :: u79 :: u80 :: u81 :: u82 :: u83 :: u84 :: u85 :: u86 :: u87 :: u88 :: u89 :: u90 :: u91 :: u92 :: u93 :: u94 :: u95 :: u96 :: u97 :: u98 :: u99 :: u100 :: u101 :: u102 :: u103 :: u104 :: u105 :: u106 :: u107 :: u108 :: u109 :: u110 :: u111 :: u112 :: u113 :: u114 :: u115 :: u116 :: u117 :: u118 :: u119 :: u120 :: u121 :: u122 :: u123 :: u124 :: u125 :: u126 :: u127 :: u128 :: u129 :: u130 :: u131 :: u132 :: u133 :: u134 :: u135 :: u136 :: u137 :: u138 :: u139 :: u140 :: u141 :: u142 :: x143 :: x144 :: x145 :: x146 :: x147 :: x148 :: x149 :: x150 :: x151 :: x152 :: x153 :: x154 :: x155 :: x156 :: x157 :: x158 :: x159 :: x160 :: x161 :: x162 :: x163 :: x164 :: x165 :: x166 :: x167 :: x168 :: x169 :: x170 :: x171 :: x172 :: x173 :: x174 :: x175 :: x176 :: x177 :: x178 :: x179 :: x180 :: x181 :: x182 :: x183 :: x184 :: x185 :: x186 :: x187 :: x188 :: x189 :: x190 :: x191 :: x192 :: x193 :: x194 :: x195 :: x196 :: x197 :: x198 :: x199 :: x200 :: x201 :: x202 :: x203 :: x204 :: x205 :: u206 :: u207 :: u208 :: u209 :: u210 :: u211 :: u212 :: u213 :: u214 :: u215 :: u216 :: u217 :: u218 :: u219 :: []).toArray,[]⟩ w2):
  code12.wp Tryz.prog Q ⟨(u0 :: u1 :: u2 :: u3 :: Value.pointer (some ⟨gm,0,none⟩) :: Value.int .i64 (n:Nat) :: Value.int .i64 (t:Nat) :: u7 :: u8 :: u9 :: u10 :: u11 :: Value.int .i64 0 :: u13 :: u14 :: u15 :: u16 :: u17 :: u18 :: u19 :: u20 :: u21 :: u22 :: u23 :: u24 :: u25 :: u26 :: u27 :: u28 :: u29 :: u30 :: u31 :: u32 :: u33 :: u34 :: u35 :: u36 :: u37 :: u38 :: u39 :: u40 :: u41 :: u42 :: u43 :: u44 :: u45 :: u46 :: u47 :: u48 :: u49 :: u50 :: u51 :: u52 :: u53 :: u54 :: u55 :: u56 :: u57 :: u58 :: u59 :: u60 :: u61 :: u62 :: u63 :: u64 :: u65 :: u66 :: u67 :: u68 :: u69 :: u70 :: u71 :: u72 :: u73 :: u74 :: u75 :: u76 :: u77 :: u78 :: u79 :: u80 :: u81 :: u82 :: u83 :: u84 :: u85 :: u86 :: u87 :: u88 :: u89 :: u90 :: u91 :: u92 :: u93 :: u94 :: u95 :: u96 :: u97 :: u98 :: u99 :: u100 :: u101 :: u102 :: u103 :: u104 :: u105 :: u106 :: u107 :: u108 :: u109 :: u110 :: u111 :: u112 :: u113 :: u114 :: u115 :: u116 :: u117 :: u118 :: u119 :: u120 :: u121 :: u122 :: u123 :: u124 :: u125 :: u126 :: u127 :: u128 :: u129 :: u130 :: u131 :: u132 :: u133 :: u134 :: u135 :: u136 :: u137 :: u138 :: u139 :: u140 :: u141 :: u142 :: u143 :: u144 :: u145 :: u146 :: u147 :: u148 :: u149 :: u150 :: u151 :: u152 :: u153 :: u154 :: u155 :: u156 :: u157 :: u158 :: u159 :: u160 :: u161 :: u162 :: u163 :: u164 :: u165 :: u166 :: u167 :: u168 :: u169 :: u170 :: u171 :: u172 :: u173 :: u174 :: u175 :: u176 :: u177 :: u178 :: u179 :: u180 :: u181 :: u182 :: u183 :: u184 :: u185 :: u186 :: u187 :: u188 :: u189 :: u190 :: u191 :: u192 :: u193 :: u194 :: u195 :: u196 :: u197 :: u198 :: u199 :: u200 :: u201 :: u202 :: u203 :: u204 :: u205 :: u206 :: u207 :: u208 :: u209 :: u210 :: u211 :: u212 :: u213 :: u214 :: u215 :: u216 :: u217 :: u218 :: u219 :: []).toArray,[]⟩ wr0:=by
 have a4:=zh hA0.out.1;have a5:=zh hA0.out.2;clear hA0;have M:=zh G;clear G
 conv=>arg 2;whnf
 go_loopg [12] t (fun gk v wr=>∃(a:Nat),v=.int .i64 a/\a<=t/\gk=t - a/\Hid (MS B wr wr.heap.size gm gd W H L n t t (.slice (some ⟨gF,0,none⟩) t cF) (.slice none 0 0) (.slice (some ⟨gT,0,none⟩) t cT) fs ts/\zb w1 wr))
 case atStart=>exact ⟨0,rfl,EU _,rfl,a4.out,a5.out⟩
 clear a4 a5
 case round=>
  obtain ⟨a,rfl,ha,rfl,hA⟩:=hrel;obtain ⟨wA,rfl⟩:∃wA:World,wA=wr:=⟨_,rfl⟩;rcases Fc a t with D | hage
  ·skip
   go_wp2_with fail
   go_loopg [13] t (fun gk v wr=>∃(b:Nat),v=.int .i64 b/\b<=t/\gk=t - b/\Hid (MS B wr wr.heap.size gm gd W H L n t t (.slice (some ⟨gF,0,none⟩) t cF) (.slice none 0 0) (.slice (some ⟨gT,0,none⟩) t cT) fs ts/\zb w1 wr))
   case atStart=>exact ⟨0,rfl,EU _,rfl,hA.out⟩
   clear hA
   case round=>
    obtain ⟨b,rfl,hb,rfl,hA⟩:=hrel;obtain ⟨wB,rfl⟩:∃wB:World,wB=wr:=⟨_,rfl⟩;rcases Fc b t with E | hbge
    ·go_wp2_with fail
     go_loopg [14] n (fun gk v wr=>∃(k:Nat),v=.int .i64 k/\k<=n/\gk=n - k/\Hid (MS B wr wr.heap.size gm gd W H L n t t (.slice (some ⟨gF,0,none⟩) t cF) (.slice none 0 0) (.slice (some ⟨gT,0,none⟩) t cT) fs ts/\zb w1 wr))
     case atStart=>exact ⟨0,rfl,EU _,rfl,hA.out⟩
     clear hA
     case round=>
      obtain ⟨k,rfl,hk,rfl,hA⟩:=hrel;by_cases U:k<n/\b≠a
      ·obtain ⟨V,o⟩:=U;have I:decide (k<n)=true:=EJ V;have e5:decide ((k:Int)<(n:Int))=true:=EJ (by omega);have a6:((b:Int)==(a:Int))=false:=by rw [ET];omega
       have a7:((b:Int) != (a:Int))=true:=by rw [bne_iff_ne];omega
       have c9:(b==a)=false:=by rw [ET];exact o
       have d4:(b != a)=true:=by rw [bne_iff_ne];exact o
       have d5:decide (b=a)=false:=EK o;have d9:=HcT.out;have d8:=HcF.out;have f3:(0:Int)<=(b:Int)/\(b:Int)<(t:Int):=by omega
       have c7:(0:Int)<=(a:Int)/\(a:Int)<(t:Int):=by omega
       have e4:(0:Int)<=(k:Int)/\(k:Int)<(n:Int):=by omega
       have hm:=hA.out.1;have m5:wr.cell? ⟨gm,5,none⟩=some (.slice (some ⟨gT,0,none⟩) t cT):=hm.mz.cell (k:=5) rfl;have m3:wr.cell? ⟨gm,3,none⟩=some (.slice (some ⟨gF,0,none⟩) t cF):=hm.mz.cell (k:=3) rfl;obtain ⟨sb,u1,u2,e0,e1,e2,l1,l2,o1,o2,-,⟨k1,k2⟩,-,-⟩:=hm.td b E;obtain ⟨sa,v1,v2,d0,d1,d2,p1,p2,q1,q2,-,⟨j1,j2⟩,-,-⟩:=hm.td a D;obtain ⟨uf,b0,lf,z,b5,-⟩:=hm.fd a D;have b9:0<lf.length:=by omega
       obtain ⟨gb,cb,rfl,b7,-⟩:=World.ownsRow.form z b9;have T1:wr.cell? ⟨gT,b*3+1,none⟩=some u1:=(hm.T.cellAt (b*3+1) (by omega)).trans e1;have T2:wr.cell? ⟨gT,b*3+2,none⟩=some u2:=(hm.T.cellAt (b*3+2) (by omega)).trans e2;have A1:wr.cell? ⟨gT,a*3+1,none⟩=some v1:=(hm.T.cellAt (a*3+1) (by omega)).trans d1;have A2:wr.cell? ⟨gT,a*3+2,none⟩=some v2:=(hm.T.cellAt (a*3+2) (by omega)).trans d2;have F1:wr.cell? ⟨gF,a,none⟩=some (.slice (some ⟨gb,0,none⟩) lf.length cb):=(hm.F.cellAt a (by omega)).trans b0;have e3:=Ck z;have b6:∀j,wr.frozen? ⟨gb,j,none⟩=false:=fun j=>World.ownsRow.frozenAt z j
       have J:∃bo,wr.cell? ⟨gb,k,none⟩=some (.bool bo):=by
        have h1:=World.ownsRow.cellAt z k (by omega);rw [Fq,EE (by omega)] at h1;exact ⟨_,h1⟩
       obtain ⟨bo,J⟩:=J;have a2:Hid (∃cs,zk wr gb 4 cs):=own_blkB z;have f1:=zh b5;have b8:(k:Int)<(lf.length:Int):=by omega
       obtain ⟨b1,B1⟩:=hasB (k:Int) o1 (by omega);obtain ⟨b2,B2⟩:=hasB (k:Int) o2 (by omega);obtain ⟨b3,B3⟩:=hasB (k:Int) q1 (by omega);obtain ⟨b4,B4⟩:=hasB (k:Int) q2 (by omega);have a0:=zh B1;have a1:=zh B2;have c0:=zh B3;have c4:=zh B4;clear B1 B2 B3 B4 e0 e1 e2 o1 o2 d0 d1 d2 q1 q2 b0 z b5 hm o;go_upto_region 37 with fail;go_cut [180] from 163 to 180 (fun s wx=>(∃bb,s=.bool bb)/\wr=wx)
       case first=>
        go_wp2_with fail
        refine (a0.out wr (zb.refl _)).mono ?_;rintro e w' ⟨rfl,rfl⟩
        cases b1 with
        | true=>
         go_wp2_with fail
         go_meet;exact ⟨⟨_,rfl⟩,rfl⟩
        | false=>
         go_wp2_with fail
         refine (a1.out wr (zb.refl _)).mono ?_;rintro e w' ⟨rfl,rfl⟩
         go_wp2_with fail
         go_meet;exact ⟨⟨_,rfl⟩,rfl⟩
       case rest=>
        obtain ⟨⟨bb,rfl⟩,rfl⟩:=hcut
        cases bb with
        | true=>
         clear I e5 a6 a7 c9 d4 d5 T1 T2 b9 d9
         go_wp2_with fail
         have a3:Hid (∀x,MS B ((wr.drew).setCell ⟨gb,k,none⟩ (.bool x)) ((wr.drew).setCell ⟨gb,k,none⟩ (.bool x)).heap.size gm gd W H L n t t (.slice (some ⟨gF,0,none⟩) t cF) (.slice none 0 0) (.slice (some ⟨gT,0,none⟩) t cT) fs ts/\zb w1 ((wr.drew).setCell ⟨gb,k,none⟩ (.bool x))):=fun x=>hA.out.1.stored (k:=k) hA.out.2 HB.out a2.out b7 x
         obtain ⟨csT,O⟩:=own_blkB hA.out.1.T;obtain ⟨csF,a9⟩:=own_blkB hA.out.1.F;obtain ⟨csB,a8⟩:=a2.out;have r5:=SB.rule hA.out.1.mz (by decide) m5;have r3:=SB.rule hA.out.1.mz (by decide) m3;have ra1:=SB.rule O (by decide) A1;have ra2:=SB.rule O (by decide) A2;have rf1:=SB.rule a9 (by decide) F1;have c6:Hid (∀W x,SB wr W->SB wr (W.setCell ⟨gb,k,none⟩ x)):=fun W x h=>h.set a8 x
         clear a0 a1 m5 m3 A1 A2 F1 O a9 a8;refine r38_wp (n:=n) c7 e4 d8 e3 b8 r5 r3 ra1 ra2 rf1 J b6 c0 c4 c6 (fun c a a' W he h=>hP c a a' W he h) fun b' x181 x182 x183 x184 x185 x186 x187 x188 x189 x190 x191 x192 x193 x194 x195 x196 x197 x198 x199 x200 x201 x202 x203 x204 x205=>?_;have c5:=zh (a3.out b');clear J b6 a3 r5 r3 ra1 ra2 rf1
         go_wp2_with fail
         go_roundg (n - (k+1))
         case measure=>omega
         case rel=>exact ⟨k+1,by go_num,V,rfl,c5.out⟩
        | false=>
         go_wp2_with fail
         go_roundg (n - (k+1))
         case measure=>omega
         case rel=>exact ⟨k+1,by go_num,V,rfl,hA.out⟩
      ·have e7:decide (k<n)=false\/(decide (k<n)=true/\b=a):=by
        by_cases h1:k<n
        ·exact .inr ⟨EJ h1,by by_cases h2:b=a;exact h2;exact absurd ⟨h1,h2⟩ U⟩
        ·exact .inl (EK h1)
       clear U;rcases e7 with I | ⟨I,o⟩
       ·have e6:¬ k<n:=of_decide_eq_false I
        go_wp2_with fail
        go_roundg (t - (b+1))
        case measure=>omega
        case rel=>exact ⟨b+1,by go_num,E,rfl,hA.out⟩
       ·subst o;have e6:k<n:=zaa I;have a6:((b:Int)==(b:Int))=true:=by simp
        have a7:((b:Int) != (b:Int))=false:=by simp
        go_wp2_with fail
        go_roundg (t - (b+1))
        case measure=>omega
        case rel=>exact ⟨b+1,by go_num,E,rfl,hA.out⟩
    ·have d7:b=t:=by omega
     subst d7;have d6:decide (b<b)=false:=EK (by omega);clear hbge
     go_wp2_with fail
     go_roundg (b - (a+1))
     case measure=>omega
     case rel=>exact ⟨a+1,by go_num,D,rfl,hA.out⟩
  ·have c8:a=t:=by omega
   subst c8;have d6:decide (a<a)=false:=EK (by omega);clear hage
   go_wp2_with fail
   exact M.out wA hA _ _ _ _ _ _ _ _ _ _ _ _ _ _ _ _ _ _ _ _ _ _ _ _ _ _ _ _ _ _ _ _ _ _ _ _ _ _ _ _ _ _ _ _ _ _ _ _ _ _ _ _ _ _ _ _ _ _ _ _ _ _ _ _ _
def exFree:List Bool:=[true,true,true,true,false,true,true,true,true]
theorem DO:∀(os:List Obj) (w:World),zb w (os.foldl World.alloc w)
 | [],w=>zb.refl w
 | o :: os,w=>((zb.refl w).alloc o).trans (DO os (w.alloc o))
theorem allocs_at:∀(os:List Obj) (w:World) (i:Nat) (o:Obj),os[i]?=some o->(os.foldl World.alloc w).heap[w.heap.size+i]?=some o
 | o :: os,w,0,o',h=>by
  have:o=o':=by simpa using h
  subst this;exact ((DO os (w.alloc o)).block _ (by simp)).trans (Fu w o)
 | o :: os,w,i+1,o',h=>by
  have:=allocs_at os (w.alloc o) i o' (by simpa using h);rw [show w.heap.size+(i+1)=(w.alloc o).heap.size+i from by simp;omega];exact this
theorem made_calls {ok:Nat->Prop} {v:Value} {ls:List (List Int)} (w:World) (hl:zv w ok v ls) (D2:ls.length<=9223372036854775807) (q6:∀l∈ls,l.length<=9223372036854775807):
  Calls Tryz.prog 31 #[v] w (Br w):=by
 have q4:=hl.bound;have C5:=zh q4;obtain ⟨vs,⟨A,c,rfl,hc,hr⟩,he⟩:=q4;have HR:=zh hr;have HE:=zh he;clear hl hr he;have k5:=zh q6;clear q6;obtain ⟨iI,ji,jz0,jz1,jz2⟩:=info_parts Tryz.infoInt;have JF:=zh ji;have JZ0:=zh jz0;have JZ1:=zh jz1;have JZ2:=zh jz2;clear ji jz0 jz1 jz2;obtain ⟨iB,bi,bz0,bz1,bz2⟩:=info_parts Tryz.infoBool;have BF:=zh bi;have BZ0:=zh bz0;have BZ1:=zh bz1;have BZ2:=zh bz2;clear bi bz0 bz1 bz2;obtain ⟨iT,ti,tz0,tz1,tz2⟩:=info_parts Tryz.infoTask;have TF:=zh ti;have TZ0:=zh tz0;have TZ1:=zh tz1;have TZ2:=zh tz2;clear ti tz0 tz1 tz2;obtain ⟨iL,li,lz0,lz1,lz2⟩:=info_parts Tryz.infoBools;have LF:=zh li;have LZ0:=zh lz0;have LZ1:=zh lz1;have LZ2:=zh lz2;clear li lz0 lz1 lz2
 go_enter Tryz.func31,Tryz.ntmps31
 go_upto_region 1 with fail;generalize i2:w.alloc (.cells #[.int .i64 0,.int .i64 0,.int .i64 0,.slice none 0 0,.slice none 0 0,.slice none 0 0] 32)=w1;have l5:zb w w1:=by rw [<-i2];exact (zb.refl w).alloc _
 have c7:Hid (zk w1 w.heap.size 32 #[.int .i64 0,.int .i64 0,.int .i64 0,.slice none 0 0,.slice none 0 0,.slice none 0 0]/\w1.heap.size=w.heap.size+1):=by rw [<-i2];exact ⟨zk.new _ _ _ rfl,by simp⟩
 clear i2;have b4:=zh l5;obtain ⟨B,hB⟩:=zad w1.heap.size;obtain ⟨gd,d4⟩:=zad w1.heap.size;have HB:=zh hB;have e0:=zh d4;have n6:zT B (w1.alloc (.cells #[.slice none 0 0,.int .i64 0] 108)) gd:=⟨by omega,_,0,[],zk.new _ _ _ d4,zj.nil _ _,by simp,by simp⟩;have s4:=zh n6;clear n6 l5
 go_upto_if 20 with fail
 rw [<-d4];go_cut [] (fun wx=>Hid (zb w1 wx/\zT B wx gd))
 case first=>
  by_cases E:ls.length=0
  ·have h6:decide ((0:Int)<(ls.length:Int))=false:=by rw [E];rfl
   have d5:decide (0<ls.length)=false:=by rw [E];rfl
   have f6:¬ (0<ls.length):=by omega
   have HZ:=zh E;clear E
   go_wp2_with fail
   go_meet;exact ⟨(zb.refl _).alloc _,s4.out⟩
  ·have hp:0<ls.length:=by omega
   have h6:decide ((0:Int)<(ls.length:Int))=true:=EJ (by omega);have d5:decide (0<ls.length)=true:=EJ hp;obtain ⟨b0,o0,u0,rfl,r1,a9,d8⟩:=Ai HR.out HE.out hp hp;have HU:=zh d8;obtain ⟨A0,c0,rfl,n4,-⟩:=d8;rw [Nat.add_zero] at a9;have q0:=zb.rule a9;have f4:zb w (w1.alloc (.cells #[.slice none 0 0,.int .i64 0] 108)):=b4.out.alloc _;clear E a9
   go_wp2_with fail
   go_meet;have h1:=f4;refine ⟨(zb.refl _).alloc _,by omega,_,0,ls[0],zk.new _ _ _ d4,?_,k5.out _ (EH hp),EU _⟩;exact (zj.below HU.out (b4.out.alloc _)).weaken fun b hb=>by have:=hb.2;have:=c7.out.2;omega
 case rest=>
  have g8:B<=w1.heap.size:=by omega
  clear hB d4;obtain ⟨i4,n7⟩:=hcut.out;have s5:=zh n7;clear hcut n7
  go_wp2_with fail
  refine (zQ 3 s5.out (by omega) (by omega)).mono ?_;rintro e w3 ⟨x,rfl,D3,D4,n8,p4⟩;have i5:zb w1 w3:=Below.grown i4 p4 i4.size (fun k hk=>by injection hk with hk;have:=e0.out;omega);have s6:=zh n8;clear n8 p4 i4
  go_wp2_with fail
  refine (zQ 4 s6.out (by omega) (by omega)).mono ?_;rintro e w4 ⟨y,rfl,D5,D6,n9,p5⟩;have i6:zb w1 w4:=Below.grown i5 p5 i5.size (fun k hk=>by injection hk with hk;have:=e0.out;omega);have s7:=zh n9;clear n9 p5 i5
  go_wp2_with fail
  refine (zQ 2 s7.out (by omega) (by omega)).mono ?_;rintro e w5 ⟨z,rfl,E0,E1,o3,p6⟩;have b3:zb w1 w5:=Below.grown i6 p6 i6.size (fun k hk=>by injection hk with hk;have:=e0.out;omega);have s8:=zh o3;clear o3 p6 i6;have k6:Hid (zk (w5.alloc (.cells #[.int .i64 (2+x),.int .i64 (1+y),.int .i64 (1+z),.slice none 0 0,.slice none 0 0,.slice none 0 0] 32)) w5.heap.size 32 #[.int .i64 (2+x),.int .i64 (1+y),.int .i64 (1+z),.slice none 0 0,.slice none 0 0,.slice none 0 0]):=zk.new _ _ _ rfl;obtain ⟨gm,f0⟩:=zad w5.heap.size;rw [<-f0] at k6;have g5:=zh f0;have t3:=zh b3
  go_upto_if 39 with fail
  rw [<-f0];clear f0;go_cut [] (fun wx=>Hid (zb w1 wx/\zT B wx gd/\∃W H L:Int,(2<=W/\W<=4)/\(1<=H/\H<=4)/\(L=1\/(L=2/\W<=3/\H<=2))/\zk wx gm 32 #[.int .i64 W,.int .i64 H,.int .i64 L,.slice none 0 0,.slice none 0 0,.slice none 0 0]))
  case first=>
   have a7:=k6.out;generalize i3:w5.alloc (.cells #[.int .i64 (2+x),.int .i64 (1+y),.int .i64 (1+z),.slice none 0 0,.slice none 0 0,.slice none 0 0] 32)=w6 at*;have i7:zb w1 w6:=by rw [<-i3];exact b3.alloc _
   have j3:Hid (zT B w6 gd):=by rw [<-i3];exact s8.out.ext ((zb.refl _).alloc _) (EI g8 b3.size)
   clear i3;have m0:w6.cell? ⟨gm,0,none⟩=some (.int .i64 (2+x)):=a7.cell (k:=0) rfl;have m1:w6.cell? ⟨gm,1,none⟩=some (.int .i64 (1+y)):=a7.cell (k:=1) rfl;have m2:w6.cell? ⟨gm,2,none⟩=some (.int .i64 (1+z)):=a7.cell (k:=2) rfl;have hf:=fun k=>a7.frozen k
   have f9:=zh a7;clear a7;by_cases d9:z=1
   ·have ht:((1+z:Int)==2)=true:=by rw [beq_iff_eq];omega
    have z8:decide (1+z=2)=true:=EJ (by omega);have i0:(z==1)=true:=by rw [beq_iff_eq];exact d9
    have v9:=zh d9;clear d9
    go_wp2_with fail
    go_meet;have e9:B<=gm:=by have:=g5.out;have:=b3.size;omega
    have p9:w1.heap.size<=gm:=by have:=g5.out;have:=b3.size;omega
    have p2:=j3.out;refine ⟨(i7.setCell (p:=⟨gm,0,none⟩) p9 _).setCell (p:=⟨gm,1,none⟩) p9 _,?_,min (2+x) 3,min (1+y) 2,1+z,by omega,by omega,.inr ⟨by have:=v9.out;omega,by omega,by omega⟩,?_⟩
    ·obtain ⟨cs,hb⟩:=p2.blk;have q9:gd≠gm:=zk.ne_ hb (f9.out) (by decide);exact p2.keep (((Below.refl B w6).setCell (p:=⟨gm,0,none⟩) e9 _).setCell (p:=⟨gm,1,none⟩) e9 _) ((EP _ ⟨gm,1,none⟩ _ gd q9).trans (EP _ ⟨gm,0,none⟩ _ gd q9))
    ·exact ((f9.out).set (k:=0) _).set (k:=1) _
   ·have ht:((1+z:Int)==2)=false:=by rw [ET];omega
    have z8:decide (1+z=2)=false:=EK (by omega);have i0:(z==1)=false:=by rw [ET];exact d9
    have s0:Hid (1+z=1):=by show _=_;omega
    clear d9
    go_wp2_with fail
    go_meet;exact ⟨i7,j3.out,2+x,1+y,1+z,by omega,by omega,.inl s0.out,f9.out⟩
  case rest=>
   obtain ⟨i8,o4,W,H,L,hW,hH,hL,Q⟩:=hcut.out;clear hcut;have o9:=dims hW hH hL;have k9:Hid ((2<=W/\W<=4)/\(1<=H/\H<=4)/\(L=1\/(L=2/\W<=3/\H<=2))):=⟨hW,hH,hL⟩;have m0:wc.cell? ⟨gm,0,none⟩=some (.int .i64 W):=Q.cell (k:=0) rfl;have m1:wc.cell? ⟨gm,1,none⟩=some (.int .i64 H):=Q.cell (k:=1) rfl;have m2:wc.cell? ⟨gm,2,none⟩=some (.int .i64 L):=Q.cell (k:=2) rfl;have m3:wc.cell? ⟨gm,3,none⟩=some (.slice none 0 0):=Q.cell (k:=3) rfl;have m4:wc.cell? ⟨gm,4,none⟩=some (.slice none 0 0):=Q.cell (k:=4) rfl;have m5:wc.cell? ⟨gm,5,none⟩=some (.slice none 0 0):=Q.cell (k:=5) rfl;have t8:=zh Q;have s9:=zh o4;clear Q o4 hW hH hL b3
   go_wp2_with fail
   refine (AP W H L _ _ _ _ (by omega) (by omega)).mono ?_;rintro e w8 ⟨rfl,n3⟩;have a6:zb wc w8:=n3;have f5:zb w1 w8:=i8.trans a6;have j4:Hid (zT B w8 gd):=s9.out.ext a6 (EI g8 i8.size);have t9:Hid (zk w8 gm 32 #[.int .i64 W,.int .i64 H,.int .i64 L,.slice none 0 0,.slice none 0 0,.slice none 0 0]):=t8.out.ext a6;obtain ⟨n,hn⟩:∃n:Nat,(n:Int)=W*H*L:=⟨(W*H*L).toNat,by omega⟩;rw [<-hn];have HN:=zh hn;have f1:2<=n/\n<=16:=by omega
   clear hn o9 m0 m1 m2 m3 m4 m5 n3 a6 i8
   go_wp2_with fail
   refine (zQ 3 j4.out (by omega) (by omega)).mono ?_;rintro e w9 ⟨z9,rfl,s1,s2,o5,g9⟩;obtain ⟨many,d7⟩:∃many:Nat,(many:Int)=1+z9:=⟨(1+z9).toNat,by omega⟩;have q7:1<=many/\many<=3:=by omega
   have H9:Hid (MS B w9 w9.heap.size gm gd W H L n 0 0 (.slice none 0 0) (.slice none 0 0) (.slice none 0 0) [] []):=by
    have e9:B<=gm:=by have:=g5.out;have:=t3.out.size;omega
    have h0:MS B w8 w8.heap.size gm gd W H L n 0 0 (.slice none 0 0) (.slice none 0 0) (.slice none 0 0) [] []:=⟨EI g8 f5.size,EG _,t9.out,e9,j4.out,World.ownsRow_nil _ _ _ _,World.ownsRow_nil _ _ _ _,fun j hj=>by omega,fun j hj=>by omega⟩;have h1:=h0.drawn o5 g9;exact h1.ext (zb.refl _)
   have r9:zb w1 w9:=Below.grown f5 g9 f5.size (fun k hk=>by injection hk with hk;have:=e0.out;omega);have l0:=zh r9;clear o5 g9 r9 f5
   go_wp2_with fail
   rw [<-d7];clear d7 s1 s2
   go_loopg [7] many (fun gk v wr=>∃(t:Nat) (vF vT:Value) (fs ts:List Value),v=.int .i64 t/\t<=many/\gk=many - t/\Hid (MS B wr wr.heap.size gm gd W H L n t t vF (.slice none 0 0) vT fs ts/\zb w1 wr))
   case atStart=>exact ⟨0,_,_,[],[],rfl,EU _,rfl,H9.out,l0.out⟩
   clear H9 l0
   case round=>
    obtain ⟨t,vF,vT,fs,ts,rfl,ht,rfl,G⟩:=hrel;obtain ⟨wR,rfl⟩:∃wR:World,wR=wr:=⟨_,rfl⟩;rcases Fc t many with h7 | hge
    ·skip
     have h8:B<=wR.heap.size:=G.out.1.hB;obtain ⟨ge,hge⟩:=zad wR.heap.size;have b8:=zh hge;have j6:Hid (zT B (wR.alloc (.cells #[.slice none 0 0,.int .i64 0] 108)) ge):=⟨by omega,_,0,[],zk.new _ _ _ hge,zj.nil _ _,by simp,by simp⟩;have g0:Hid (zk (wR.alloc (.cells #[.slice none 0 0,.int .i64 0] 108)) ge 108 #[.slice none 0 0,.int .i64 0]):=zk.new _ _ _ hge;have g3:Hid (zb wR (wR.alloc (.cells #[.slice none 0 0,.int .i64 0] 108))):=(zb.refl _).alloc _
     go_upto_if 64 with fail
     rw [<-hge];clear hge;generalize wR.alloc _=wa at*;go_cut [] (fun wx=>Hid (zb wR wx/\zT B wx ge))
     case first=>
      by_cases E:t+1<ls.length
      ·have h6:decide ((t:Int)+1<(ls.length:Int))=true:=EJ (by omega);have d5:decide (t+1<ls.length)=true:=EJ E;have f6:(t:Int)+1<(ls.length:Int):=by omega
       obtain ⟨b0,o0,u0,rfl,r1,a9,d8⟩:=Ai HR.out HE.out E E;have HU:=zh d8;obtain ⟨A0,c0,rfl,n4,-⟩:=d8;have q0:=zb.rule a9;have r8:zb w wR:=b4.out.trans G.out.2;have f4:zb w wa:=r8.trans g3.out;have v8:=zh f4;have C7:wa.cell? ⟨ge,0,none⟩=some (.slice none 0 0):=g0.out.cell (k:=0) rfl;have C9:wa.frozen? ⟨ge,0,none⟩=false:=g0.out.frozen 0;clear a9 r8
       go_wp2_with fail
       go_meet;have x9:wR.heap.size<=ge:=by have:=b8.out;omega
       have y6:w.heap.size<=ge:=by have:=b8.out;have:=(Below.size (b4.out.trans G.out.2));omega
       refine ⟨g3.out.setCell (p:=⟨ge,0,none⟩) x9 _,by have:=b8.out;omega,_,0,ls[t+1],g0.out.set (k:=0) _,?_,k5.out _ (EH E),EU _⟩;exact (zj.keep HU.out (zW.of_below (v8.out.setCell (p:=⟨ge,0,none⟩) y6 _))).weaken fun b hb=>by have:=hb.2;have:=c7.out.2;have:=HB.out;omega
      ·have h6:decide ((t:Int)+1<(ls.length:Int))=false:=EK (by omega);have d5:decide (t+1<ls.length)=false:=EK E;have f6:¬ (t:Int)+1<(ls.length:Int):=by omega
       have HZ:=zh E;clear E
       go_wp2_with fail
       go_meet;exact ⟨g3.out,j6.out⟩
     case rest=>
      obtain ⟨i9,o8⟩:=hcut.out;have g6:=zh i9;have j5:=zh o8;clear hcut o8 j6;obtain ⟨w6,rfl⟩:∃w6:World,w6=wc:=⟨_,rfl⟩;have w0:B<=w6.heap.size:=EI h8 i9.size;have y7:ge<w6.heap.size:=j5.out.lt;have i0:t<3:=by omega
      have r2:(t:Int)<3:=by omega
      have r3:(0:Int)<=(t:Int):=by omega
      clear i9
      go_wp2_with fail
      refine r16_wp j5 w0 y7 i0 r2 r3 f1 ?hQ16
      case hQ16=>
       intro v W hJ _;obtain ⟨s,g7,g11,gt,x1,x2,A4,A5,r6,f7,m9⟩:=hJ.fin h8 g6.out.size (by have:=b8.out;omega);have l6:zb wR W:=Below.grown g6.out hJ.gb g6.out.size (fun k hk=>by injection hk with hk;have:=b8.out;omega);have e4:=zh m9;have k2:=zh l6;clear hJ m9 l6 A4 A5 r6;rw [f7];clear f7
       go_wp2_with fail
       refine (zQ 3 e4.out.dr (by omega) (by omega)).mono ?_;rintro e wb ⟨z,rfl,s0,D7,o6,h4⟩;have c4:=zh (e4.out.drawn o6 h4);have b7:=zh (e4.out.drawnExt k2.out h4);clear o6 h4 e4 k2
       go_upto_if 88 with fail
       go_cut [] (fun wx=>∃(u1:Value) (l1:List Int),Hid (R1 B wx wR.heap.size ge gt n s u1 (.slice (some ⟨g11,0,none⟩) 1 1) l1 [x2]/\zb wR wx/\l1.length<=2))
       case first=>
        by_cases E:z=0
        ·have j0:(z==0)=true:=by rw [beq_iff_eq];exact E
         have HZ:=zh E;clear E
         go_wp2_with fail
         refine r18_wp c4 b7 f1 (fun c a a' W he h=>(show a'.defers=[]/\Br w (.panicked c) W from ⟨he ▸ (show a.defers=[]/\Br w (.panicked c) W from h).1,(show a.defers=[]/\Br w (.panicked c) W from h).2⟩)) fun u1 l1 W h9 x89 x90 x91 x92 x93 x94 x95 x96=>?_
         go_wp2_with fail
         go_meet;exact ⟨_,_,h9⟩
        ·have j0:(z==0)=false:=by rw [ET];exact E
         have HZ:=zh E;clear E
         go_wp2_with fail
         go_meet;exact ⟨_,[x1],c4.out,b7.out,by simp⟩
       case rest=>
        obtain ⟨u1,l1,f2⟩:=hcut;have e5:=zh f2.out.1;have j8:=zh f2.out.2.1;have k3:=zh f2.out.2.2;clear f2
        go_wp2_with fail
        refine (zQ 3 e5.out.dr (by omega) (by omega)).mono ?_;rintro e wq ⟨zz,rfl,C2,C3,p1,h5⟩;have c5:=zh (e5.out.drawn p1 h5);have b5:=zh (e5.out.drawnExt j8.out h5);clear p1 h5 e5 j8 c4 b7
        go_upto_if 99 with fail
        go_cut [] (fun wx=>∃(u2:Value) (l2:List Int),Hid (R1 B wx wR.heap.size ge gt n s u1 u2 l1 l2/\zb wR wx/\l2.length<=2))
        case first=>
         by_cases E:zz=0
         ·have j0:(zz==0)=true:=by rw [beq_iff_eq];exact E
          have HZ:=zh E;clear E
          go_wp2_with fail
          refine r20_wp c5 b5 f1 (fun c a a' W he h=>(show a'.defers=[]/\Br w (.panicked c) W from ⟨he ▸ (show a.defers=[]/\Br w (.panicked c) W from h).1,(show a.defers=[]/\Br w (.panicked c) W from h).2⟩)) fun u2 l2 W h9 x100 x101 x102 x103 x104 x105 x106 x107=>?_
          go_wp2_with fail
          go_meet;exact ⟨_,_,h9⟩
         ·have j0:(zz==0)=false:=by rw [ET];exact E
          have HZ:=zh E;clear E
          go_wp2_with fail
          go_meet;exact ⟨_,[x2],c5.out,b5.out,by simp⟩
        case rest=>
         obtain ⟨u2,l2,f3⟩:=hcut;have v5:=zh f3.out.1;have k1:=zh f3.out.2.1;have k4:=zh f3.out.2.2;obtain ⟨w7,rfl⟩:∃w7:World,w7=wc:=⟨_,rfl⟩;have j2:Hid (OwnB w7 w7.heap.size (.slice none 0 0) []):=World.ownsRow_nil _ _ _ _;clear f3 c5 b5
         go_wp2_with fail
         go_loopg [10,11] n (fun gk vf v wr=>∃(k:Nat) (lf:List Bool),v=.int .i64 k/\k<=n/\gk=n - k/\lf.length=k/\Hid (R1 B wr wR.heap.size ge gt n s u1 u2 l1 l2/\zb wR wr/\OwnB wr w7.heap.size vf lf/\w7.heap.size<=wr.heap.size))
         case atStart=>exact ⟨0,[],rfl,EU _,rfl,rfl,v5.out,k1.out,j2.out,EG _⟩
         clear j2
         case round=>
          obtain ⟨k,lf,rfl,hk,rfl,q5,hQ⟩:=hrel;have e6:=zh k1.out.size;have e3:=zh q5;have y8:lf.length<=16:=by omega
          clear q5;rcases Fc k n with d6 | hge2
          ·skip
           go_wp2_with fail
           refine (zQ 6 hQ.out.1.dr (by omega) (by omega)).mono ?_;rintro e wd ⟨x,rfl,f4,i7,o7,V⟩;have a4:=zh (hQ.out.1.drawn o7 V);have g4:=zh (hQ.out.1.drawnExt hQ.out.2.1 V)
           have a3:Hid (OwnB wd w7.heap.size u10 lf):=AK hQ.out.2.2.1 fun g I=>V.block g (World.ownsRow.lt hQ.out.2.2.1 g I).2 (fun e=>by
            obtain ⟨cs,hb⟩:=hQ.out.1.dr.blk;injection e with e;subst e;exact zm hQ.out.2.2.1 hb (by decide) I)
           have z6:w7.heap.size<=wd.heap.size:=EI hQ.out.2.2.2 V.size;clear o7 V;obtain ⟨Af,cf,rfl,C8,-⟩:=a3.out.bools;have D1:(0:Int)<=(k:Int):=by omega
           have B2:wd.cell? ⟨gt,1,none⟩=some u1:=a4.out.tk.cell (k:=1) rfl;have B3:wd.cell? ⟨gt,2,none⟩=some u2:=a4.out.tk.cell (k:=2) rfl;by_cases hx:0<x
           ·have A6:decide (0<x)=true:=EJ hx
            go_wp2_with (at_builtin;refine wpList_append_own_at _ rfl _ _ 29 rfl w7.heap.size 4 iB (.bool false) 1 1 Tryz.underlying29 BF.out BZ0.out BZ1.out BZ2.out rfl (by decide) (.slice Af lf.length cf) lf.length _ rfl (World.ownsRow.alloc a3.out _) ⟨wd.heap.size,0,none⟩ 1 1 [.bool true] rfl rfl (cell_one_new _ _ _) (by simp [Value.oneCell']) (by unfold maxLen;omega) (by omega) (by simp;omega) ?_)
            intro v' w9 o I _ O;obtain ⟨a1,U⟩:=a4.out.grownB a3.out e6.out I;have c6:=zh a1;have b6:Hid (zb wR w9):=Below.trans g4.out U;have c8:Hid (w7.heap.size<=w9.heap.size):=by have:=I.size;simp at this;show _<=_;omega
            have b9:Hid (OwnB w9 w7.heap.size v' (lf++[true])):=OwnB.app o;clear a1 U o I O
            go_wp2_with fail
            go_roundg (n - (k+1))
            case measure=>omega
            case rel=>exact ⟨k+1,lf++[true],by go_num,d6,rfl,by have:=e3.out;simp;omega,c6.out,b6.out,b9.out,c8.out⟩
           ·have A6:decide (0<x)=false:=EK hx
            go_wp2_with fail
            refine (zU (k:Int) wd (AI.of_own a4.out.o1) (by have:=k3.out;omega)).mono ?_;rintro e w' ⟨rfl,rfl⟩;generalize decide ((k:Int)∈l1)=b1
            cases b1 with
            | true=>
             go_wp2_with (at_builtin;refine wpList_append_own_at _ rfl _ _ 29 rfl w7.heap.size 4 iB (.bool false) 1 1 Tryz.underlying29 BF.out BZ0.out BZ1.out BZ2.out rfl (by decide) (.slice Af lf.length cf) lf.length _ rfl (World.ownsRow.alloc a3.out _) ⟨wd.heap.size,0,none⟩ 1 1 [.bool true] rfl rfl (cell_one_new _ _ _) (by simp [Value.oneCell']) (by unfold maxLen;omega) (by omega) (by simp;omega) ?_)
             intro v' w9 o I _ O;obtain ⟨a1,U⟩:=a4.out.grownB a3.out e6.out I;have c6:=zh a1;have b6:Hid (zb wR w9):=Below.trans g4.out U;have c8:Hid (w7.heap.size<=w9.heap.size):=by have:=I.size;simp at this;show _<=_;omega
             have b9:Hid (OwnB w9 w7.heap.size v' (lf++[true])):=OwnB.app o;clear a1 U o I O
             go_wp2_with fail
             go_roundg (n - (k+1))
             case measure=>omega
             case rel=>exact ⟨k+1,lf++[true],by go_num,d6,rfl,by have:=e3.out;simp;omega,c6.out,b6.out,b9.out,c8.out⟩
            | false=>
             go_wp2_with fail
             refine (zU (k:Int) wd (AI.of_own a4.out.o2) (by have:=k4.out;omega)).mono ?_;rintro e w' ⟨rfl,rfl⟩;generalize decide ((k:Int)∈l2)=b2
             go_wp2_with (at_builtin;refine wpList_append_own_at _ rfl _ _ 29 rfl w7.heap.size 4 iB (.bool false) 1 1 Tryz.underlying29 BF.out BZ0.out BZ1.out BZ2.out rfl (by decide) (.slice Af lf.length cf) lf.length _ rfl (World.ownsRow.alloc a3.out _) ⟨wd.heap.size,0,none⟩ 1 1 [.bool b2] rfl rfl (cell_one_new _ _ _) (by simp [Value.oneCell']) (by unfold maxLen;omega) (by omega) (by simp;omega) ?_)
             intro v' w9 o I _ O;obtain ⟨a1,U⟩:=a4.out.grownB a3.out e6.out I;have c6:=zh a1;have b6:Hid (zb wR w9):=Below.trans g4.out U;have c8:Hid (w7.heap.size<=w9.heap.size):=by have:=I.size;simp at this;show _<=_;omega
             have b9:Hid (OwnB w9 w7.heap.size v' (lf++[b2])):=OwnB.app o;clear a1 U o I O
             go_wp2_with fail
             go_roundg (n - (k+1))
             case measure=>omega
             case rel=>exact ⟨k+1,lf++[b2],by go_num,d6,rfl,by have:=e3.out;simp;omega,c6.out,b6.out,b9.out,c8.out⟩
          ·skip
           have q3:k=n:=by omega
           have t5:=zh q3;have B4:decide (k<n)=false:=EK (by omega);have B5:decide ((k:Int)<(n:Int))=false:=EK (by omega);have B6:¬ k<n:=by omega
           clear q3 hge2;have e7:=G.out.1.ext hQ.out.2.1;have m5:wr.cell? ⟨gm,5,none⟩=some vT:=e7.mz.cell (k:=5) rfl;have hf:=fun j=>e7.mz.frozen j
           have c9:∀j,wr.frozen? ⟨gm,j,none⟩=false:=hf;obtain ⟨A1,c1,rfl,-⟩:=Bd hQ.out.1.o1;obtain ⟨A2,c2,rfl,-⟩:=Bd hQ.out.1.o2;have t0:wr.cell? ⟨gt,0,none⟩=some (.string s):=hQ.out.1.tk.cell (k:=0) rfl;have t1:wr.cell? ⟨gt,1,none⟩=some (.slice A1 l1.length c1):=hQ.out.1.tk.cell (k:=1) rfl;have t2:wr.cell? ⟨gt,2,none⟩=some (.slice A2 l2.length c2):=hQ.out.1.tk.cell (k:=2) rfl;have a2:=zh e7;clear e7 hf
           go_wp2_with (at_builtin;refine wpList_append_own_at _ rfl _ _ 30 rfl B 56 iT (.agg #[.string ⟨#[]⟩,.slice none 0 0,.slice none 0 0]) 3 64 Tryz.underlying30 TF.out TZ0.out TZ1.out TZ2.out rfl (by decide) vT t _ rfl (a2.out.T.alloc _) ⟨wr.heap.size,0,none⟩ 1 1 [.string s,.slice A1 l1.length c1,.slice A2 l2.length c2] rfl rfl (cells3n _ _ _ _ _) (by simp [Value.oneCell']) (by unfold maxLen;omega) (by omega) (by have:=a2.out.hB;simp;omega) ?_)
           intro v' w9 o I _ O;obtain ⟨gv,cv,rfl,-,-⟩:=World.ownsRow.form o (by omega);obtain ⟨l7,m8,n1⟩:=a2.out.end1 hQ.out.1 k3.out k4.out hQ.out.2.2.1 o I;have D:w9.heap[gm]?=wr.heap[gm]?:=(I.block gm (by have:=zd a2.out.mz;simp;omega) (fun e=>zm a2.out.T a2.out.mz (by decide) e.symm)).trans (EY _ _ _ (zd a2.out.mz));have n5:w9.cell? ⟨gm,5,none⟩=some vT:=(EV (a:=⟨gm,5,none⟩) D).trans m5;have p3:w9.frozen? ⟨gm,5,none⟩=false:=(Fe (a:=⟨gm,5,none⟩) D).trans (c9 5);have J:=zh l7;have k7:=zh m8;have j7:Hid (zb w1 (w9.setCell ⟨gm,5,none⟩ (.slice (some ⟨gv,0,none⟩) (t+1) cv))):=Below.trans (zb.trans G.out.2 hQ.out.2.1) (HB.out ▸ n1);clear l7 m8 n1 o I O D m5 c9 t0 t1 t2;go_upto_region 27 with fail;clear n5 p3;generalize w9.setCell ⟨gm,5,none⟩ (.slice (some ⟨gv,0,none⟩) (t+1) cv)=wv at*;obtain ⟨Af,cf,rfl,-,-⟩:=k7.out.bools;have m3:wv.cell? ⟨gm,3,none⟩=some vF:=J.out.mz.cell (k:=3) rfl;have c9:∀j,wv.frozen? ⟨gm,j,none⟩=false:=fun j=>J.out.mz.frozen j
           have t6:Hid (∀g,(Value.slice Af lf.length cf).ownBlock=some g->g<wr.heap.size):=fun g I=>(World.ownsRow.lt hQ.out.2.2.1 g I).2
           go_wp2_with (at_builtin;refine wpList_append_own_at _ rfl _ _ 28 rfl B 29 iL (.slice none 0 0) 1 24 Tryz.underlying28 LF.out LZ0.out LZ1.out LZ2.out rfl (by decide) vF t _ rfl (J.out.F.alloc _) ⟨wv.heap.size,0,none⟩ 1 1 [.slice Af lf.length cf] rfl rfl (cell_one_new _ _ _) (by simp [Value.oneCell']) (by unfold maxLen;omega) (by omega) (by have:=J.out.hB;simp;omega) ?_)
           intro v2 w9 o I _ O;obtain ⟨gv2,cv2,rfl,-,-⟩:=World.ownsRow.form o (by omega);obtain ⟨l8,n2⟩:=J.out.end2 k7.out (e3.out.trans t5.out) (EI h8 e6.out) t6.out o I;have D:w9.heap[gm]?=wv.heap[gm]?:=(I.block gm (by have:=zd J.out.mz;simp;omega) (fun e=>zm J.out.F J.out.mz (by decide) e.symm)).trans (EY _ _ _ (zd J.out.mz));have n5:w9.cell? ⟨gm,3,none⟩=some vF:=(EV (a:=⟨gm,3,none⟩) D).trans m3;have p3:w9.frozen? ⟨gm,3,none⟩=false:=(Fe (a:=⟨gm,3,none⟩) D).trans (c9 3);have t7:=zh l8;have j9:Hid (zb w1 (w9.setCell ⟨gm,3,none⟩ (.slice (some ⟨gv2,0,none⟩) (t+1) cv2))):=Below.trans j7.out (HB.out ▸ n2);clear l8 n2 o I O D m3 c9
           go_wp2_with fail
           go_roundg (many - (t+1))
           case measure=>omega
           case rel=>exact ⟨t+1,_,_,_,_,by go_num,h7,rfl,t7.out,j9.out⟩
    ·skip
     have A3:t=many:=by omega
     subst A3;have C0:decide (t<t)=false:=EK (by omega);have l4:0<t:=by omega
     obtain ⟨gT,cT,rfl,p8,-⟩:=World.ownsRow.form G.out.1.T l4;obtain ⟨gF,cF,rfl,p7,-⟩:=World.ownsRow.form G.out.1.F l4;have HcT:=zh (Ck G.out.1.T);have HcF:=zh (Ck G.out.1.F);clear hge;have l9:=zh (G.out.1);have n0:=zh (G.out.2);clear G
     go_wp2_with fail
     have m7:Hid (MS B wR wR.heap.size gm gd W H L n t t (.slice (some ⟨gF,0,none⟩) t cF) (.slice none 0 0) (.slice (some ⟨gT,0,none⟩) t cT) fs ts/\zb w1 wR):=⟨l9.out,n0.out⟩;clear l9 n0;refine loop12_wp HB p8 p7 HcT HcF f1 q7 m7 (fun c a a' W he h=>(show a'.defers=[]/\Br w (.panicked c) W from ⟨he ▸ (show a.defers=[]/\Br w (.panicked c) W from h).1,(show a.defers=[]/\Br w (.panicked c) W from h).2⟩)) fun wA hA x13 x14 x143 x144 x145 x146 x147 x148 x149 x150 x151 x152 x153 x154 x155 x156 x157 x158 x159 x160 x161 x162 x163 x164 x165 x166 x167 x168 x169 x170 x171 x172 x173 x174 x175 x176 x177 x178 x179 x180 x181 x182 x183 x184 x185 x186 x187 x188 x189 x190 x191 x192 x193 x194 x195 x196 x197 x198 x199 x200 x201 x202 x203 x204 x205=>?_;clear m7;obtain ⟨a,x7⟩:=zad t;subst x7
     go_wp2_with fail
     have hA0:=hA.out;obtain ⟨S,hS⟩:=zad wA.heap.size;have k8:Hid (RU w1 B wA S gm gd W H L n a a (.slice (some ⟨gF,0,none⟩) a cF) (.slice none 0 0) (.slice (some ⟨gT,0,none⟩) a cT) fs ts []):=⟨HB.out,hS ▸ hA0.1.hB,hS ▸ hA0.1,World.ownsRow_nil _ _ _ _,hA0.2⟩;clear hA0 hS hA
     go_loopg [15] n (fun gk v wr=>∃(i:Nat) (vU:Value) (us:List Bool),v=.int .i64 i/\i<=n/\gk=n - i/\us.length=i/\Hid (RU w1 B wr S gm gd W H L n a a (.slice (some ⟨gF,0,none⟩) a cF) vU (.slice (some ⟨gT,0,none⟩) a cT) fs ts us))
     case atStart=>exact ⟨0,_,[],rfl,EU _,rfl,rfl,k8.out⟩
     clear k8
     case round=>
      obtain ⟨i,vU,us,rfl,hi,rfl,i1,hQ⟩:=hrel;obtain ⟨wU,rfl⟩:∃wU:World,wU=wr:=⟨_,rfl⟩;rcases Fc i n with hin | hin
      ·have q1:decide (i<n)=true:=EJ hin;have q2:decide ((i:Int)<(n:Int))=true:=EJ (by omega);have C4:Hid (zb w1 wU):=hQ.out.ex;have r4:us.length<=16:=by omega
       have v7:=zh i1;clear i1;go_upto_region 42 with fail;refine r42_wp hQ r4 (fun c a a' W he h=>(show a'.defers=[]/\Br w (.panicked c) W from ⟨he ▸ (show a.defers=[]/\Br w (.panicked c) W from h).1,(show a.defers=[]/\Br w (.panicked c) W from h).2⟩)) fun vU' x w2 h9 x211 x212 x213 x214 x215 x216 x217 x218=>?_;have v4:=zh h9;clear h9
       go_wp2_with fail
       go_roundg (n - (i+1))
       case measure=>omega
       case rel=>exact ⟨i+1,_,_,by go_num,hin,rfl,by rw [EO,v7.out];rfl,v4.out⟩
      ·have q1:decide (i<n)=false:=EK (by omega);have q2:decide ((i:Int)<(n:Int))=false:=EK (by omega);have r5:us.length=n:=by omega
       obtain ⟨Au,cu,r7,-,-⟩:=OwnB.bools hQ.out.ow;rw [i1] at r7;subst r7;have a5:=k9.out;obtain ⟨mm,q8,m6⟩:=RU.maze hQ.out a5.1 a5.2.1 a5.2.2 HN.out q7 r5;have v3:=zh q8;have v1:=zh m6;have M:zk wU w.heap.size 32 #[.int .i64 0,.int .i64 0,.int .i64 0,.slice none 0 0,.slice none 0 0,.slice none 0 0]:=c7.out.1.ext hQ.out.ex;have z0:wU.cell? ⟨w.heap.size,0,none⟩=some (.int .i64 0):=M.cell (k:=0) rfl;have z1:wU.cell? ⟨w.heap.size,1,none⟩=some (.int .i64 0):=M.cell (k:=1) rfl;have z2:wU.cell? ⟨w.heap.size,2,none⟩=some (.int .i64 0):=M.cell (k:=2) rfl;have z3:wU.cell? ⟨w.heap.size,3,none⟩=some (.slice none 0 0):=M.cell (k:=3) rfl;have z4:wU.cell? ⟨w.heap.size,4,none⟩=some (.slice none 0 0):=M.cell (k:=4) rfl;have z5:wU.cell? ⟨w.heap.size,5,none⟩=some (.slice none 0 0):=M.cell (k:=5) rfl;have hfz:∀j,wU.frozen? ⟨w.heap.size,j,none⟩=false:=fun j=>M.frozen j
       have m0:wU.cell? ⟨gm,0,none⟩=some (.int .i64 W):=hQ.out.ms.mz.cell (k:=0) rfl;have m1:wU.cell? ⟨gm,1,none⟩=some (.int .i64 H):=hQ.out.ms.mz.cell (k:=1) rfl;have m2:wU.cell? ⟨gm,2,none⟩=some (.int .i64 L):=hQ.out.ms.mz.cell (k:=2) rfl;have m3:wU.cell? ⟨gm,3,none⟩=some (.slice (some ⟨gF,0,none⟩) a cF):=hQ.out.ms.mz.cell (k:=3) rfl;have m4:wU.cell? ⟨gm,4,none⟩=some (.slice Au i cu):=hQ.out.ms.mz.cell (k:=4) rfl;have m5:wU.cell? ⟨gm,5,none⟩=some (.slice (some ⟨gT,0,none⟩) a cT):=hQ.out.ms.mz.cell (k:=5) rfl;have s3:=zh M;have t4:Hid (zb w1 wU):=hQ.out.ex;clear a5 q8 m6 M r5 hin hQ
       go_wp2_with fail
       refine DF (P:=fun W=>bodyPost Tryz.prog Tryz.f31 (Br w) Exit.ret _ W) (g2:=w.heap.size) ?_ s3.out;intro WZ a8 x0 hk;have y0:WZ.cell? ⟨w.heap.size,0,none⟩=some (.int .i64 W):=a8.cell (k:=0) rfl;have y1:WZ.cell? ⟨w.heap.size,1,none⟩=some (.int .i64 H):=a8.cell (k:=1) rfl;have y2:WZ.cell? ⟨w.heap.size,2,none⟩=some (.int .i64 L):=a8.cell (k:=2) rfl;have y3:WZ.cell? ⟨w.heap.size,3,none⟩=some (.slice (some ⟨gF,0,none⟩) a cF):=a8.cell (k:=3) rfl;have y4:WZ.cell? ⟨w.heap.size,4,none⟩=some (.slice Au i cu):=a8.cell (k:=4) rfl;have y5:WZ.cell? ⟨w.heap.size,5,none⟩=some (.slice (some ⟨gT,0,none⟩) a cT):=a8.cell (k:=5) rfl;have A7:zb w wU:=b4.out.trans t4.out;have y9:=v3.out.keep (w':=WZ) (fun b hb h7=>hk b h7 (by have:=c7.out.2;have:=HB.out;omega))
       exact FC (v:=.agg #[.int .i64 W,.int .i64 H,.int .i64 L,.slice (some ⟨gF,0,none⟩) a cF,.slice Au i cu,.slice (some ⟨gT,0,none⟩) a cT]) (by simp [results,Tryz.results31,go_sem,y0,y1,y2,y3,y4,y5]) rfl
        ⟨_,mm,rfl,Below.trans A7 x0,y9.weaken (fun b hb=>by have:=c7.out.2;have:=HB.out;omega),v1.out⟩
end
end Go.Proofs.YthbjngbhbbkkgaaGreat
