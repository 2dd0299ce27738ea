import Derived.Test.YtjomnbdjajjgfaaGreatDoorWKn
import Derived.Test.YtjomnbdjajjgfaaGreatDoorWKp
import Derived.Deep.LoopGhost
import Derived.Deep.AppendLies
import Derived.StillTailTactics
import Derived.Shelf.Strings.BuilderK
import Derived.Shelf.LaysM
import Derived.Shelf.Strconv.Itoa3
import Derived.Shelf.LaysC
import Derived.Shelf.Strconv.ErrVarAll
import Derived.Shelf.Strings.Search2
import Derived.Lib.UnsafeStr
import Derived.Lib.AppendStr
set_option linter.unusedVariables false
set_option linter.unusedSimpArgs false
set_option maxRecDepth 100000
set_option maxHeartbeats 16000000
namespace Go.Proofs.YtjomnbdjajjgfaaGreatDoor
variable {ls:List (List Int)} {bs:List Value} {B:Nat} {ok:Nat->Prop} {v:Value} {w:World}
section
open Go.RowKit
attribute [local go_sem ↓] Go.wp_at_zero Go.wp_at_succ
def startsReg (n:Nat):Code->Bool
 | .region id _ _=>decide (id=n)
 | .seq a _=>startsReg n a
 | .block _ c=>startsReg n c
 | _=>false
def CK (n:Nat):Code->Option Code
 | .loop c=>if startsReg n c=true then some (.loop c) else CK n c
 | .seq a b=>match CK n a with
  | some c=>some c
  | none=>CK n b
 | .cond _ a b=>match CK n a with
  | some c=>some c
  | none=>CK n b
 | .block _ c=>CK n c
 | _=>none
noncomputable def code12:Code:=(Tryz.f26.body.bind (CK 29)).getD .skip
theorem loop12_wp {w1 wr0:World} {Q:Exit->Act->World->Prop} {gm gd gF gT cF cT n t:Nat} {W H L:Int} {fs ts:List Value} {u0 u1 u2 u3 u7 u8 u9 u10 u11 u13 u14 u15 u16 u17 u18 u19 u20 u21 u22 u23 u24 u25 u26 u27 u28 u29 u30 u31 u32 u33 u34 u35 u36 u37 u38 u39 u40 u41 u42 u43 u44 u45 u46 u47 u48 u49 u50 u51 u52 u53 u54 u55 u56 u57 u58 u59 u60 u61 u62 u63 u64 u65 u66 u67 u68 u69 u70 u71 u72 u73 u74 u75 u76 u77 u78 u79 u80 u81 u82 u83 u84 u85 u86 u87 u88 u89 u90 u91 u92 u93 u94 u95 u96 u97 u98 u99 u100 u101 u102 u103 u104 u105 u106 u107 u108 u109 u110 u111 u112 u113 u114 u115 u116 u117 u118 u119 u120 u121 u122 u123 u124 u125 u126 u127 u128 u129 u130 u131 u132 u133 u134 u135 u136 u137 u138 u139 u140 u141 u142 u143 u144 u145 u146 u147 u148 u149 u150 u151 u152 u153 u154 u155 u156 u157 u158 u159 u160 u161 u162 u163 u164 u165 u166 u167 u168 u169 u170 u171 u172 u173 u174 u175 u176 u177 u178 u179 u180 u181 u182 u183 u184 u185 u186 u187 u188 u189 u190 u191 u192 u193 u194 u195 u196 u197 u198 u199 u200 u201 u202 u203 u204 u205 u206 u207 u208 u209 u210 u211 u212 u213 u214 u215 u216 u217 u218 u219:Value}
  (HB:Hid (B=w1.heap.size)) (f1:B<=gT) (f0:B<=gF) (HcT:Hid (t<=cT)) (HcF:Hid (t<=cF)) (f7:2<=n/\n<=16) (f6:1<=t/\t<=3)
  (hA0:Hid (MS B wr0 wr0.heap.size gm gd W H L n t t (.slice (some ⟨gF,0,none⟩) t cF) (.slice none 0 0) (.slice (some ⟨gT,0,none⟩) t cT) fs ts/\za w1 wr0))
  (hP:∀c (a a':Act) w,a.defers=a'.defers->Q (.panic c) a w->Q (.panic c) a' w)
  (I:∀(w2:World),Hid (MS B w2 w2.heap.size gm gd W H L n t t (.slice (some ⟨gF,0,none⟩) t cF) (.slice none 0 0) (.slice (some ⟨gT,0,none⟩) t cT) fs ts/\za w1 w2)->∀(x13 x14 x143 x144 x145 x146 x147 x148 x149 x150 x151 x152 x153 x154 x155 x156 x157 x158 x159 x160 x161 x162 x163 x164 x165 x166 x167 x168 x169 x170 x171 x172 x173 x174 x175 x176 x177 x178 x179 x180 x181 x182 x183 x184 x185 x186 x187 x188 x189 x190 x191 x192 x193 x194 x195 x196 x197 x198 x199 x200 x201 x202 x203 x204 x205:Value),Q (.exit 4) ⟨(u0 :: u1 :: u2 :: u3 :: Value.pointer (some ⟨gm,0,none⟩) :: Value.int .i64 (n:Nat) :: Value.int .i64 (t:Nat) :: u7 :: u8 :: u9 :: u10 :: u11 :: Value.int .i64 (t:Nat) :: x13 :: x14 :: u15 :: u16 :: u17 :: u18 :: u19 :: u20 :: u21 :: u22 :: u23 :: u24 :: u25 :: u26 :: u27 :: u28 :: u29 :: u30 :: u31 :: u32 :: u33 :: u34 :: u35 :: u36 :: u37 :: u38 :: u39 :: u40 :: u41 :: u42 :: u43 :: u44 :: u45 :: u46 :: u47 :: u48 :: u49 :: u50 :: u51 :: u52 :: u53 :: u54 :: u55 :: u56 :: u57 :: u58 :: u59 :: u60 :: u61 :: u62 :: u63 :: u64 :: u65 :: u66 :: u67 :: u68 :: u69 :: u70 :: u71 :: u72 :: u73 :: u74 :: u75 :: u76 :: u77 :: u78 :: u79 :: u80 :: u81 :: u82 :: u83 :: u84 :: u85 :: u86 :: u87 :: u88 :: u89 :: u90 :: u91 :: u92 :: u93 :: u94 :: u95 :: u96 :: u97 :: u98 :: u99 :: u100 :: u101 :: u102 :: u103 :: u104 :: u105 :: u106 :: u107 :: u108 :: u109 :: u110 :: u111 :: u112 :: u113 :: u114 :: u115 :: u116 :: u117 :: u118 :: u119 :: u120 :: u121 :: u122 :: u123 :: u124 :: u125 :: u126 :: u127 :: u128 :: u129 :: u130 :: u131 :: u132 :: u133 :: u134 :: u135 :: u136 :: u137 :: u138 :: u139 :: u140 :: u141 :: u142 :: x143 :: x144 :: x145 :: x146 :: x147 :: x148 :: x149 :: x150 :: x151 :: x152 :: x153 :: x154 :: x155 :: x156 :: x157 :: x158 :: x159 :: x160 :: x161 :: x162 :: x163 :: x164 :: x165 :: x166 :: x167 :: x168 :: x169 :: x170 :: x171 :: x172 :: x173 :: x174 :: x175 :: x176 :: x177 :: x178 :: x179 :: x180 :: x181 :: x182 :: x183 :: x184 :: x185 :: x186 :: x187 :: x188 :: x189 :: x190 :: x191 :: x192 :: x193 :: x194 :: x195 :: x196 :: x197 :: x198 :: x199 :: x200 :: x201 :: x202 :: x203 :: x204 :: x205 :: u206 :: u207 :: u208 :: u209 :: u210 :: u211 :: u212 :: u213 :: u214 :: u215 :: u216 :: u217 :: u218 :: u219 :: []).toArray,[]⟩ w2):
  code12.wp Tryz.prog Q ⟨(u0 :: u1 :: u2 :: u3 :: Value.pointer (some ⟨gm,0,none⟩) :: Value.int .i64 (n:Nat) :: Value.int .i64 (t:Nat) :: u7 :: u8 :: u9 :: u10 :: u11 :: Value.int .i64 0 :: u13 :: u14 :: u15 :: u16 :: u17 :: u18 :: u19 :: u20 :: u21 :: u22 :: u23 :: u24 :: u25 :: u26 :: u27 :: u28 :: u29 :: u30 :: u31 :: u32 :: u33 :: u34 :: u35 :: u36 :: u37 :: u38 :: u39 :: u40 :: u41 :: u42 :: u43 :: u44 :: u45 :: u46 :: u47 :: u48 :: u49 :: u50 :: u51 :: u52 :: u53 :: u54 :: u55 :: u56 :: u57 :: u58 :: u59 :: u60 :: u61 :: u62 :: u63 :: u64 :: u65 :: u66 :: u67 :: u68 :: u69 :: u70 :: u71 :: u72 :: u73 :: u74 :: u75 :: u76 :: u77 :: u78 :: u79 :: u80 :: u81 :: u82 :: u83 :: u84 :: u85 :: u86 :: u87 :: u88 :: u89 :: u90 :: u91 :: u92 :: u93 :: u94 :: u95 :: u96 :: u97 :: u98 :: u99 :: u100 :: u101 :: u102 :: u103 :: u104 :: u105 :: u106 :: u107 :: u108 :: u109 :: u110 :: u111 :: u112 :: u113 :: u114 :: u115 :: u116 :: u117 :: u118 :: u119 :: u120 :: u121 :: u122 :: u123 :: u124 :: u125 :: u126 :: u127 :: u128 :: u129 :: u130 :: u131 :: u132 :: u133 :: u134 :: u135 :: u136 :: u137 :: u138 :: u139 :: u140 :: u141 :: u142 :: u143 :: u144 :: u145 :: u146 :: u147 :: u148 :: u149 :: u150 :: u151 :: u152 :: u153 :: u154 :: u155 :: u156 :: u157 :: u158 :: u159 :: u160 :: u161 :: u162 :: u163 :: u164 :: u165 :: u166 :: u167 :: u168 :: u169 :: u170 :: u171 :: u172 :: u173 :: u174 :: u175 :: u176 :: u177 :: u178 :: u179 :: u180 :: u181 :: u182 :: u183 :: u184 :: u185 :: u186 :: u187 :: u188 :: u189 :: u190 :: u191 :: u192 :: u193 :: u194 :: u195 :: u196 :: u197 :: u198 :: u199 :: u200 :: u201 :: u202 :: u203 :: u204 :: u205 :: u206 :: u207 :: u208 :: u209 :: u210 :: u211 :: u212 :: u213 :: u214 :: u215 :: u216 :: u217 :: u218 :: u219 :: []).toArray,[]⟩ wr0:=by
 have a4:=zh hA0.out.1;have a5:=zh hA0.out.2;clear hA0;have M:=zh I;clear I
 conv=>arg 2;whnf
 go_loopg [12] t (fun gk v wr=>∃(a:Nat),v=.int .i64 a/\a<=t/\gk=t - a/\Hid (MS B wr wr.heap.size gm gd W H L n t t (.slice (some ⟨gF,0,none⟩) t cF) (.slice none 0 0) (.slice (some ⟨gT,0,none⟩) t cT) fs ts/\za w1 wr))
 case atStart=>exact ⟨0,rfl,Ef _,rfl,a4.out,a5.out⟩
 clear a4 a5
 case round=>
  obtain ⟨a,rfl,ha,rfl,hA⟩:=hrel;obtain ⟨wA,rfl⟩:∃wA:World,wA=wr:=⟨_,rfl⟩;rcases En a t with E | hage
  ·skip
   go_wp2_with fail
   go_loopg [13] t (fun gk v wr=>∃(b:Nat),v=.int .i64 b/\b<=t/\gk=t - b/\Hid (MS B wr wr.heap.size gm gd W H L n t t (.slice (some ⟨gF,0,none⟩) t cF) (.slice none 0 0) (.slice (some ⟨gT,0,none⟩) t cT) fs ts/\za w1 wr))
   case atStart=>exact ⟨0,rfl,Ef _,rfl,hA.out⟩
   clear hA
   case round=>
    obtain ⟨b,rfl,hb,rfl,hA⟩:=hrel;obtain ⟨wB,rfl⟩:∃wB:World,wB=wr:=⟨_,rfl⟩;rcases En b t with G | hbge
    ·go_wp2_with fail
     go_loopg [14] n (fun gk v wr=>∃(k:Nat),v=.int .i64 k/\k<=n/\gk=n - k/\Hid (MS B wr wr.heap.size gm gd W H L n t t (.slice (some ⟨gF,0,none⟩) t cF) (.slice none 0 0) (.slice (some ⟨gT,0,none⟩) t cT) fs ts/\za w1 wr))
     case atStart=>exact ⟨0,rfl,Ef _,rfl,hA.out⟩
     clear hA
     case round=>
      obtain ⟨k,rfl,hk,rfl,hA⟩:=hrel;by_cases U:k<n/\b≠a
      ·obtain ⟨V,o⟩:=U;have J:decide (k<n)=true:=DU V;have e7:decide ((k:Int)<(n:Int))=true:=DU (by omega);have a6:((b:Int)==(a:Int))=false:=by rw [Ee];omega
       have a7:((b:Int) != (a:Int))=true:=by rw [bne_iff_ne];omega
       have d5:(b==a)=false:=by rw [Ee];exact o
       have d6:(b != a)=true:=by rw [bne_iff_ne];exact o
       have d7:decide (b=a)=false:=DV o;have e4:=HcT.out;have e3:=HcF.out;have f5:(0:Int)<=(b:Int)/\(b:Int)<(t:Int):=by omega
       have c9:(0:Int)<=(a:Int)/\(a:Int)<(t:Int):=by omega
       have e6:(0:Int)<=(k:Int)/\(k:Int)<(n:Int):=by omega
       have hm:=hA.out.1;have m5:wr.cell? ⟨gm,5,none⟩=some (.slice (some ⟨gT,0,none⟩) t cT):=hm.mz.cell (k:=5) rfl;have m3:wr.cell? ⟨gm,3,none⟩=some (.slice (some ⟨gF,0,none⟩) t cF):=hm.mz.cell (k:=3) rfl;obtain ⟨sb,u1,u2,e0,e1,e2,l1,l2,o1,o2,-,⟨k1,k2⟩,-,-⟩:=hm.td b G;obtain ⟨sa,v1,v2,d0,d1,d2,p1,p2,q1,q2,-,⟨j1,j2⟩,-,-⟩:=hm.td a E;obtain ⟨uf,b0,lf,D,b5,-⟩:=hm.fd a E;have b9:0<lf.length:=by omega
       obtain ⟨gb,cb,rfl,b7,-⟩:=World.ownsRow.form D b9;have T1:wr.cell? ⟨gT,b*3+1,none⟩=some u1:=(hm.T.cellAt (b*3+1) (by omega)).trans e1;have T2:wr.cell? ⟨gT,b*3+2,none⟩=some u2:=(hm.T.cellAt (b*3+2) (by omega)).trans e2;have A1:wr.cell? ⟨gT,a*3+1,none⟩=some v1:=(hm.T.cellAt (a*3+1) (by omega)).trans d1;have A2:wr.cell? ⟨gT,a*3+2,none⟩=some v2:=(hm.T.cellAt (a*3+2) (by omega)).trans d2;have F1:wr.cell? ⟨gF,a,none⟩=some (.slice (some ⟨gb,0,none⟩) lf.length cb):=(hm.F.cellAt a (by omega)).trans b0;have e5:=Bx D;have b6:∀j,wr.frozen? ⟨gb,j,none⟩=false:=fun j=>World.ownsRow.frozenAt D j
       have K:∃bo,wr.cell? ⟨gb,k,none⟩=some (.bool bo):=by
        have h1:=World.ownsRow.cellAt D k (by omega);rw [EA,DO (by omega)] at h1;exact ⟨_,h1⟩
       obtain ⟨bo,K⟩:=K;have a2:Hid (∃cs,zd wr gb 4 cs):=own_blkB D;have f3:=zh b5;have b8:(k:Int)<(lf.length:Int):=by omega
       obtain ⟨b1,B1⟩:=hasB (k:Int) o1 (by omega);obtain ⟨b2,B2⟩:=hasB (k:Int) o2 (by omega);obtain ⟨b3,B3⟩:=hasB (k:Int) q1 (by omega);obtain ⟨b4,B4⟩:=hasB (k:Int) q2 (by omega);have a0:=zh B1;have a1:=zh B2;have c0:=zh B3;have c6:=zh B4;clear B1 B2 B3 B4 e0 e1 e2 o1 o2 d0 d1 d2 q1 q2 b0 D b5 hm o;go_upto_region 37 with fail;go_cut [180] from 163 to 180 (fun s wx=>(∃bb,s=.bool bb)/\wr=wx)
       case first=>
        go_wp2_with fail
        refine (a0.out wr (za.refl _)).mono ?_;rintro e w' ⟨rfl,rfl⟩
        cases b1 with
        | true=>
         go_wp2_with fail
         go_meet;exact ⟨⟨_,rfl⟩,rfl⟩
        | false=>
         go_wp2_with fail
         refine (a1.out wr (za.refl _)).mono ?_;rintro e w' ⟨rfl,rfl⟩
         go_wp2_with fail
         go_meet;exact ⟨⟨_,rfl⟩,rfl⟩
       case rest=>
        obtain ⟨⟨bb,rfl⟩,rfl⟩:=hcut
        cases bb with
        | true=>
         clear J e7 a6 a7 d5 d6 d7 T1 T2 b9 e4
         go_wp2_with fail
         have a3:Hid (∀x,MS B ((wr.drew).setCell ⟨gb,k,none⟩ (.bool x)) ((wr.drew).setCell ⟨gb,k,none⟩ (.bool x)).heap.size gm gd W H L n t t (.slice (some ⟨gF,0,none⟩) t cF) (.slice none 0 0) (.slice (some ⟨gT,0,none⟩) t cT) fs ts/\za w1 ((wr.drew).setCell ⟨gb,k,none⟩ (.bool x))):=fun x=>hA.out.1.stored (k:=k) hA.out.2 HB.out a2.out b7 x
         obtain ⟨csT,O⟩:=own_blkB hA.out.1.T;obtain ⟨csF,a9⟩:=own_blkB hA.out.1.F;obtain ⟨csB,a8⟩:=a2.out;have r5:=SB.rule hA.out.1.mz (by decide) m5;have r3:=SB.rule hA.out.1.mz (by decide) m3;have ra1:=SB.rule O (by decide) A1;have ra2:=SB.rule O (by decide) A2;have rf1:=SB.rule a9 (by decide) F1;have c8:Hid (∀W x,SB wr W->SB wr (W.setCell ⟨gb,k,none⟩ x)):=fun W x h=>h.set a8 x
         clear a0 a1 m5 m3 A1 A2 F1 O a9 a8;refine r38_wp (n:=n) c9 e6 e3 e5 b8 r5 r3 ra1 ra2 rf1 K b6 c0 c6 c8 (fun c a a' W he h=>hP c a a' W he h) fun b' x181 x182 x183 x184 x185 x186 x187 x188 x189 x190 x191 x192 x193 x194 x195 x196 x197 x198 x199 x200 x201 x202 x203 x204 x205=>?_;have c7:=zh (a3.out b');clear K b6 a3 r5 r3 ra1 ra2 rf1
         go_wp2_with fail
         go_roundg (n - (k+1))
         case measure=>omega
         case rel=>exact ⟨k+1,by go_num,V,rfl,c7.out⟩
        | false=>
         go_wp2_with fail
         go_roundg (n - (k+1))
         case measure=>omega
         case rel=>exact ⟨k+1,by go_num,V,rfl,hA.out⟩
      ·have e9:decide (k<n)=false\/(decide (k<n)=true/\b=a):=by
        by_cases h1:k<n
        ·exact .inr ⟨DU h1,by by_cases h2:b=a;exact h2;exact absurd ⟨h1,h2⟩ U⟩
        ·exact .inl (DV h1)
       clear U;rcases e9 with J | ⟨J,o⟩
       ·have e8:¬ k<n:=of_decide_eq_false J
        go_wp2_with fail
        go_roundg (t - (b+1))
        case measure=>omega
        case rel=>exact ⟨b+1,by go_num,G,rfl,hA.out⟩
       ·subst o;have e8:k<n:=EV J;have a6:((b:Int)==(b:Int))=true:=by simp
        have a7:((b:Int) != (b:Int))=false:=by simp
        go_wp2_with fail
        go_roundg (t - (b+1))
        case measure=>omega
        case rel=>exact ⟨b+1,by go_num,G,rfl,hA.out⟩
    ·have d9:b=t:=by omega
     subst d9;have d8:decide (b<b)=false:=DV (by omega);clear hbge
     go_wp2_with fail
     go_roundg (b - (a+1))
     case measure=>omega
     case rel=>exact ⟨a+1,by go_num,E,rfl,hA.out⟩
  ·have d4:a=t:=by omega
   subst d4;have d8:decide (a<a)=false:=DV (by omega);clear hage
   go_wp2_with fail
   exact M.out wA hA _ _ _ _ _ _ _ _ _ _ _ _ _ _ _ _ _ _ _ _ _ _ _ _ _ _ _ _ _ _ _ _ _ _ _ _ _ _ _ _ _ _ _ _ _ _ _ _ _ _ _ _ _ _ _ _ _ _ _ _ _ _ _ _ _
theorem madeN_calls (w:World) (hl:zR w ok v ls) (E2:ls.length<=9223372036854775807) (r4:∀l∈ls,l.length<=9223372036854775807):
  Calls Tryz.prog 26 #[v] w (Az w):=by
 have q9:=hl.bound;have D5:=zh q9;obtain ⟨vs,⟨A,c,rfl,hc,hr⟩,he⟩:=q9;have HR:=zh hr;have HE:=zh he;clear hl hr he;have k5:=zh r4;clear r4;obtain ⟨iI,ji,jz0,jz1,jz2⟩:=info_parts Tryz.infoInt;have JF:=zh ji;have JZ0:=zh jz0;have JZ1:=zh jz1;have JZ2:=zh jz2;clear ji jz0 jz1 jz2;obtain ⟨iB,bi,bz0,bz1,bz2⟩:=info_parts Tryz.infoBool;have BF:=zh bi;have BZ0:=zh bz0;have BZ1:=zh bz1;have BZ2:=zh bz2;clear bi bz0 bz1 bz2;obtain ⟨iT,ti,tz0,tz1,tz2⟩:=info_parts Tryz.infoTask;have TF:=zh ti;have TZ0:=zh tz0;have TZ1:=zh tz1;have TZ2:=zh tz2;clear ti tz0 tz1 tz2;obtain ⟨iL,li,lz0,lz1,lz2⟩:=info_parts Tryz.infoBools;have LF:=zh li;have LZ0:=zh lz0;have LZ1:=zh lz1;have LZ2:=zh lz2;clear li lz0 lz1 lz2
 go_enter Tryz.func26,Tryz.ntmps26
 go_upto_region 1 with fail;generalize i0:w.alloc (.cells #[.int .i64 0,.int .i64 0,.int .i64 0,.slice none 0 0,.slice none 0 0,.slice none 0 0] 32)=w1;have l5:za w w1:=by rw [<-i0];exact (za.refl w).alloc _
 have c8:Hid (zd w1 w.heap.size 32 #[.int .i64 0,.int .i64 0,.int .i64 0,.slice none 0 0,.slice none 0 0,.slice none 0 0]/\w1.heap.size=w.heap.size+1):=by rw [<-i0];exact ⟨zd.new _ _ _ rfl,by simp⟩
 clear i0;have b3:=zh l5;obtain ⟨B,hB⟩:=EY w1.heap.size;obtain ⟨gd,d5⟩:=EY w1.heap.size;have HB:=zh hB;have e1:=zh d5;have n7:zP B (w1.alloc (.cells #[.slice none 0 0,.int .i64 0] 118)) gd:=⟨by omega,_,0,[],zd.new _ _ _ d5,zk.nil _ _,by simp,by simp⟩;have t4:=zh n7;clear n7 l5
 go_upto_if 20 with fail
 rw [<-d5];go_cut [] (fun wx=>Hid (za w1 wx/\zP B wx gd))
 case first=>
  by_cases E:ls.length=0
  ·have h4:decide ((0:Int)<(ls.length:Int))=false:=by rw [E];rfl
   have d6:decide (0<ls.length)=false:=by rw [E];rfl
   have f5:¬ (0<ls.length):=by omega
   have HZ:=zh E;clear E
   go_wp2_with fail
   go_meet;exact ⟨(za.refl _).alloc _,t4.out⟩
  ·have hp:0<ls.length:=by omega
   have h4:decide ((0:Int)<(ls.length:Int))=true:=DU (by omega);have d6:decide (0<ls.length)=true:=DU hp;obtain ⟨b0,o0,u0,rfl,r8,a8,d9⟩:=Br HR.out HE.out hp hp;have HU:=zh d9;obtain ⟨A0,c0,rfl,n5,-⟩:=d9;rw [Nat.add_zero] at a8;have q0:=za.rule a8;have f3:za w (w1.alloc (.cells #[.slice none 0 0,.int .i64 0] 118)):=b3.out.alloc _;clear E a8
   go_wp2_with fail
   go_meet;have h1:=f3;refine ⟨(za.refl _).alloc _,by omega,_,0,ls[0],zd.new _ _ _ d5,?_,k5.out _ (DS hp),Ef _⟩;exact (zk.below HU.out (b3.out.alloc _)).weaken fun b hb=>by have:=hb.2;have:=c8.out.2;omega
 case rest=>
  have g5:B<=w1.heap.size:=by omega
  clear hB d5;obtain ⟨i2,n8⟩:=hcut.out;have t5:=zh n8;clear hcut n8
  go_wp2_with fail
  refine (zV 3 t5.out (by omega) (by omega)).mono ?_;rintro e w3 ⟨x,rfl,E3,E4,n9,p7⟩;have i3:za w1 w3:=Below.grown i2 p7 i2.size (fun k V=>by injection V with V;have:=e1.out;omega);have t6:=zh n9;clear n9 p7 i2
  go_wp2_with fail
  refine (zV 4 t6.out (by omega) (by omega)).mono ?_;rintro e w4 ⟨y,rfl,E5,E6,o3,p8⟩;have i4:za w1 w4:=Below.grown i3 p8 i3.size (fun k V=>by injection V with V;have:=e1.out;omega);have t7:=zh o3;clear o3 p8 i3
  go_wp2_with fail
  refine (zV 2 t7.out (by omega) (by omega)).mono ?_;rintro e w5 ⟨z,rfl,E8,E9,o4,p9⟩;have a9:za w1 w5:=Below.grown i4 p9 i4.size (fun k V=>by injection V with V;have:=e1.out;omega);have t8:=zh o4;clear o4 p9 i4;have k6:Hid (zd (w5.alloc (.cells #[.int .i64 (2+x),.int .i64 (1+y),.int .i64 (1+z),.slice none 0 0,.slice none 0 0,.slice none 0 0] 32)) w5.heap.size 32 #[.int .i64 (2+x),.int .i64 (1+y),.int .i64 (1+z),.slice none 0 0,.slice none 0 0,.slice none 0 0]):=zd.new _ _ _ rfl;obtain ⟨gm,e9⟩:=EY w5.heap.size;rw [<-e9] at k6;have g3:=zh e9;have v3:=zh a9
  go_upto_if 39 with fail
  rw [<-e9];clear e9;go_cut [] (fun wx=>Hid (za w1 wx/\zP B wx gd/\∃W H L:Int,(2<=W/\W<=4)/\(1<=H/\H<=4)/\(L=1\/(L=2/\W<=3/\H<=2))/\zd wx gm 32 #[.int .i64 W,.int .i64 H,.int .i64 L,.slice none 0 0,.slice none 0 0,.slice none 0 0]))
  case first=>
   have a6:=k6.out;generalize i1:w5.alloc (.cells #[.int .i64 (2+x),.int .i64 (1+y),.int .i64 (1+z),.slice none 0 0,.slice none 0 0,.slice none 0 0] 32)=w6 at*;have i5:za w1 w6:=by rw [<-i1];exact a9.alloc _
   have j1:Hid (zP B w6 gd):=by rw [<-i1];exact t8.out.ext ((za.refl _).alloc _) (DT g5 a9.size)
   clear i1;have m0:w6.cell? ⟨gm,0,none⟩=some (.int .i64 (2+x)):=a6.cell (k:=0) rfl;have m1:w6.cell? ⟨gm,1,none⟩=some (.int .i64 (1+y)):=a6.cell (k:=1) rfl;have m2:w6.cell? ⟨gm,2,none⟩=some (.int .i64 (1+z)):=a6.cell (k:=2) rfl;have hf:=fun k=>a6.frozen k
   have f8:=zh a6;clear a6;by_cases e0:z=1
   ·have ht:((1+z:Int)==2)=true:=by rw [beq_iff_eq];omega
    have B3:decide (1+z=2)=true:=DU (by omega);have h7:(z==1)=true:=by rw [beq_iff_eq];exact e0
    have x9:=zh e0;clear e0
    go_wp2_with fail
    go_meet;have e8:B<=gm:=by have:=g3.out;have:=a9.size;omega
    have q5:w1.heap.size<=gm:=by have:=g3.out;have:=a9.size;omega
    have p5:=j1.out;refine ⟨(i5.setCell (p:=⟨gm,0,none⟩) q5 _).setCell (p:=⟨gm,1,none⟩) q5 _,?_,min (2+x) 3,min (1+y) 2,1+z,by omega,by omega,.inr ⟨by have:=x9.out;omega,by omega,by omega⟩,?_⟩
    ·obtain ⟨cs,hb⟩:=p5.blk;have r7:gd≠gm:=zd.ne_ hb (f8.out) (by decide);exact p5.keep (((Below.refl B w6).setCell (p:=⟨gm,0,none⟩) e8 _).setCell (p:=⟨gm,1,none⟩) e8 _) ((Ea _ ⟨gm,1,none⟩ _ gd r7).trans (Ea _ ⟨gm,0,none⟩ _ gd r7))
    ·exact ((f8.out).set (k:=0) _).set (k:=1) _
   ·have ht:((1+z:Int)==2)=false:=by rw [Ee];omega
    have B3:decide (1+z=2)=false:=DV (by omega);have h7:(z==1)=false:=by rw [Ee];exact e0
    have s7:Hid (1+z=1):=by show _=_;omega
    clear e0
    go_wp2_with fail
    go_meet;exact ⟨i5,j1.out,2+x,1+y,1+z,by omega,by omega,.inl s7.out,f8.out⟩
  case rest=>
   obtain ⟨i6,o5,W,H,L,hW,hH,hL,O⟩:=hcut.out;clear hcut;have p3:=dims hW hH hL;have k9:Hid ((2<=W/\W<=4)/\(1<=H/\H<=4)/\(L=1\/(L=2/\W<=3/\H<=2))):=⟨hW,hH,hL⟩;have m0:wc.cell? ⟨gm,0,none⟩=some (.int .i64 W):=O.cell (k:=0) rfl;have m1:wc.cell? ⟨gm,1,none⟩=some (.int .i64 H):=O.cell (k:=1) rfl;have m2:wc.cell? ⟨gm,2,none⟩=some (.int .i64 L):=O.cell (k:=2) rfl;have m3:wc.cell? ⟨gm,3,none⟩=some (.slice none 0 0):=O.cell (k:=3) rfl;have m4:wc.cell? ⟨gm,4,none⟩=some (.slice none 0 0):=O.cell (k:=4) rfl;have m5:wc.cell? ⟨gm,5,none⟩=some (.slice none 0 0):=O.cell (k:=5) rfl;have v8:=zh O;have t9:=zh o5;clear O o5 hW hH hL a9
   go_wp2_with fail
   refine (zQ W H L _ _ _ _ (by omega) (by omega)).mono ?_;rintro e w8 ⟨rfl,n4⟩;have a5:za wc w8:=n4;have f4:za w1 w8:=i6.trans a5;have j2:Hid (zP B w8 gd):=t9.out.ext a5 (DT g5 i6.size);have v9:Hid (zd w8 gm 32 #[.int .i64 W,.int .i64 H,.int .i64 L,.slice none 0 0,.slice none 0 0,.slice none 0 0]):=v8.out.ext a5;obtain ⟨n,hn⟩:∃n:Nat,(n:Int)=W*H*L:=⟨(W*H*L).toNat,by omega⟩;rw [<-hn];have HN:=zh hn;have f0:2<=n/\n<=16:=by omega
   clear hn p3 m0 m1 m2 m3 m4 m5 n4 a5 i6
   go_wp2_with fail
   refine (zV 3 j2.out (by omega) (by omega)).mono ?_;rintro e w9 ⟨z9,rfl,s8,s9,o6,g6⟩;obtain ⟨many,d8⟩:∃many:Nat,(many:Int)=1+z9:=⟨(1+z9).toNat,by omega⟩;have r5:1<=many/\many<=3:=by omega
   have H9:Hid (MS B w9 w9.heap.size gm gd W H L n 0 0 (.slice none 0 0) (.slice none 0 0) (.slice none 0 0) [] []):=by
    have e8:B<=gm:=by have:=g3.out;have:=v3.out.size;omega
    have h0:MS B w8 w8.heap.size gm gd W H L n 0 0 (.slice none 0 0) (.slice none 0 0) (.slice none 0 0) [] []:=⟨DT g5 f4.size,DR _,v9.out,e8,j2.out,World.ownsRow_nil _ _ _ _,World.ownsRow_nil _ _ _ _,fun j hj=>by omega,fun j hj=>by omega⟩;have h1:=h0.drawn o6 g6;exact h1.ext (za.refl _)
   have s6:za w1 w9:=Below.grown f4 g6 f4.size (fun k V=>by injection V with V;have:=e1.out;omega);have l0:=zh s6;clear o6 g6 s6 f4
   go_wp2_with fail
   rw [<-d8];clear d8 s8 s9
   go_loopg [7] many (fun gk v wr=>∃(t:Nat) (vF vT:Value) (fs ts:List Value),v=.int .i64 t/\t<=many/\gk=many - t/\Hid (MS B wr wr.heap.size gm gd W H L n t t vF (.slice none 0 0) vT fs ts/\za w1 wr))
   case atStart=>exact ⟨0,_,_,[],[],rfl,Ef _,rfl,H9.out,l0.out⟩
   clear H9 l0
   case round=>
    obtain ⟨t,vF,vT,fs,ts,rfl,ht,rfl,G⟩:=hrel;obtain ⟨wR,rfl⟩:∃wR:World,wR=wr:=⟨_,rfl⟩;rcases En t many with h5 | hge
    ·skip
     have h6:B<=wR.heap.size:=G.out.1.hB;obtain ⟨ge,hge⟩:=EY wR.heap.size;have b7:=zh hge;have j4:Hid (zP B (wR.alloc (.cells #[.slice none 0 0,.int .i64 0] 118)) ge):=⟨by omega,_,0,[],zd.new _ _ _ hge,zk.nil _ _,by simp,by simp⟩;have f9:Hid (zd (wR.alloc (.cells #[.slice none 0 0,.int .i64 0] 118)) ge 118 #[.slice none 0 0,.int .i64 0]):=zd.new _ _ _ hge;have g0:Hid (za wR (wR.alloc (.cells #[.slice none 0 0,.int .i64 0] 118))):=(za.refl _).alloc _
     go_upto_if 64 with fail
     rw [<-hge];clear hge;generalize wR.alloc _=wa at*;go_cut [] (fun wx=>Hid (za wR wx/\zP B wx ge))
     case first=>
      by_cases E:t+1<ls.length
      ·have h4:decide ((t:Int)+1<(ls.length:Int))=true:=DU (by omega);have d6:decide (t+1<ls.length)=true:=DU E;have f5:(t:Int)+1<(ls.length:Int):=by omega
       obtain ⟨b0,o0,u0,rfl,r8,a8,d9⟩:=Br HR.out HE.out E E;have HU:=zh d9;obtain ⟨A0,c0,rfl,n5,-⟩:=d9;have q0:=za.rule a8;have s5:za w wR:=b3.out.trans G.out.2;have f3:za w wa:=s5.trans g0.out;have x8:=zh f3;have D7:wa.cell? ⟨ge,0,none⟩=some (.slice none 0 0):=f9.out.cell (k:=0) rfl;have D9:wa.frozen? ⟨ge,0,none⟩=false:=f9.out.frozen 0;clear a8 s5
       go_wp2_with fail
       go_meet;have A6:wR.heap.size<=ge:=by have:=b7.out;omega
       have A7:w.heap.size<=ge:=by have:=b7.out;have:=(Below.size (b3.out.trans G.out.2));omega
       refine ⟨g0.out.setCell (p:=⟨ge,0,none⟩) A6 _,by have:=b7.out;omega,_,0,ls[t+1],f9.out.set (k:=0) _,?_,k5.out _ (DS E),Ef _⟩;exact (zk.keep HU.out (zK.of_below (x8.out.setCell (p:=⟨ge,0,none⟩) A7 _))).weaken fun b hb=>by have:=hb.2;have:=c8.out.2;have:=HB.out;omega
      ·have h4:decide ((t:Int)+1<(ls.length:Int))=false:=DV (by omega);have d6:decide (t+1<ls.length)=false:=DV E;have f5:¬ (t:Int)+1<(ls.length:Int):=by omega
       have HZ:=zh E;clear E
       go_wp2_with fail
       go_meet;exact ⟨g0.out,j4.out⟩
     case rest=>
      obtain ⟨i7,o9⟩:=hcut.out;have g4:=zh i7;have j3:=zh o9;clear hcut o9 j4;obtain ⟨w6,rfl⟩:∃w6:World,w6=wc:=⟨_,rfl⟩;have z6:B<=w6.heap.size:=DT h6 i7.size;have A8:ge<w6.heap.size:=j3.out.lt;have h7:t<3:=by omega
      have r9:(t:Int)<3:=by omega
      have s0:(0:Int)<=(t:Int):=by omega
      clear i7
      go_wp2_with fail
      refine r16_wp j3 z6 A8 h7 r9 s0 f0 ?hQ16
      case hQ16=>
       intro v W hJ _;obtain ⟨s,g7,g11,gt,x1,x2,B5,B6,s3,f6,n0⟩:=hJ.fin h6 g4.out.size (by have:=b7.out;omega);have l6:za wR W:=Below.grown g4.out hJ.gb g4.out.size (fun k V=>by injection V with V;have:=b7.out;omega);have e3:=zh n0;have j9:=zh l6;clear hJ n0 l6 B5 B6 s3;rw [f6];clear f6
       go_wp2_with fail
       refine (zV 3 e3.out.dr (by omega) (by omega)).mono ?_;rintro e wb ⟨z,rfl,s7,E7,o7,g8⟩;have b9:=zh (e3.out.drawn o7 g8);have b6:=zh (e3.out.drawnExt j9.out g8);clear o7 g8 e3 j9
       go_upto_if 88 with fail
       go_cut [] (fun wx=>∃(u1:Value) (l1:List Int),Hid (R1 B wx wR.heap.size ge gt n s u1 (.slice (some ⟨g11,0,none⟩) 1 1) l1 [x2]/\za wR wx/\l1.length<=2))
       case first=>
        by_cases E:z=0
        ·have i8:(z==0)=true:=by rw [beq_iff_eq];exact E
         have HZ:=zh E;clear E
         go_wp2_with fail
         refine r18_wp b9 b6 f0 (fun c a a' W he h=>(show a'.defers=[]/\Az w (.panicked c) W from ⟨he ▸ (show a.defers=[]/\Az w (.panicked c) W from h).1,(show a.defers=[]/\Az w (.panicked c) W from h).2⟩)) fun u1 l1 W h9 x89 x90 x91 x92 x93 x94 x95 x96=>?_
         go_wp2_with fail
         go_meet;exact ⟨_,_,h9⟩
        ·have i8:(z==0)=false:=by rw [Ee];exact E
         have HZ:=zh E;clear E
         go_wp2_with fail
         go_meet;exact ⟨_,[x1],b9.out,b6.out,by simp⟩
       case rest=>
        obtain ⟨u1,l1,f1⟩:=hcut;have e4:=zh f1.out.1;have j6:=zh f1.out.2.1;have k3:=zh f1.out.2.2;clear f1
        go_wp2_with fail
        refine (zV 3 e4.out.dr (by omega) (by omega)).mono ?_;rintro e wq ⟨zz,rfl,D2,D3,p4,g9⟩;have c6:=zh (e4.out.drawn p4 g9);have b4:=zh (e4.out.drawnExt j6.out g9);clear p4 g9 e4 j6 b9 b6
        go_upto_if 99 with fail
        go_cut [] (fun wx=>∃(u2:Value) (l2:List Int),Hid (R1 B wx wR.heap.size ge gt n s u1 u2 l1 l2/\za wR wx/\l2.length<=2))
        case first=>
         by_cases E:zz=0
         ·have i8:(zz==0)=true:=by rw [beq_iff_eq];exact E
          have HZ:=zh E;clear E
          go_wp2_with fail
          refine r20_wp c6 b4 f0 (fun c a a' W he h=>(show a'.defers=[]/\Az w (.panicked c) W from ⟨he ▸ (show a.defers=[]/\Az w (.panicked c) W from h).1,(show a.defers=[]/\Az w (.panicked c) W from h).2⟩)) fun u2 l2 W h9 x100 x101 x102 x103 x104 x105 x106 x107=>?_
          go_wp2_with fail
          go_meet;exact ⟨_,_,h9⟩
         ·have i8:(zz==0)=false:=by rw [Ee];exact E
          have HZ:=zh E;clear E
          go_wp2_with fail
          go_meet;exact ⟨_,[x2],c6.out,b4.out,by simp⟩
        case rest=>
         obtain ⟨u2,l2,f2⟩:=hcut;have x5:=zh f2.out.1;have j8:=zh f2.out.2.1;have k4:=zh f2.out.2.2;obtain ⟨w7,rfl⟩:∃w7:World,w7=wc:=⟨_,rfl⟩;have j0:Hid (OwnB w7 w7.heap.size (.slice none 0 0) []):=World.ownsRow_nil _ _ _ _;clear f2 c6 b4
         go_wp2_with fail
         go_loopg [10,11] n (fun gk vf v wr=>∃(k:Nat) (lf:List Bool),v=.int .i64 k/\k<=n/\gk=n - k/\lf.length=k/\Hid (R1 B wr wR.heap.size ge gt n s u1 u2 l1 l2/\za wR wr/\OwnB wr w7.heap.size vf lf/\w7.heap.size<=wr.heap.size))
         case atStart=>exact ⟨0,[],rfl,Ef _,rfl,rfl,x5.out,j8.out,j0.out,DR _⟩
         clear j0
         case round=>
          obtain ⟨k,lf,rfl,V,rfl,r3,hQ⟩:=hrel;have e5:=zh j8.out.size;have e2:=zh r3;have A9:lf.length<=16:=by omega
          clear r3;rcases En k n with d7 | hge2
          ·skip
           go_wp2_with fail
           refine (zV 6 hQ.out.1.dr (by omega) (by omega)).mono ?_;rintro e wd ⟨x,rfl,f3,i5,o8,U⟩;have a3:=zh (hQ.out.1.drawn o8 U);have g1:=zh (hQ.out.1.drawnExt hQ.out.2.1 U)
           have a2:Hid (OwnB wd w7.heap.size u10 lf):=zv hQ.out.2.2.1 fun g I=>U.block g (World.ownsRow.lt hQ.out.2.2.1 g I).2 (fun e=>by
            obtain ⟨cs,hb⟩:=hQ.out.1.dr.blk;injection e with e;subst e;exact zl hQ.out.2.2.1 hb (by decide) I)
           have B1:w7.heap.size<=wd.heap.size:=DT hQ.out.2.2.2 U.size;clear o8 U;obtain ⟨Af,cf,rfl,D8,-⟩:=a2.out.bools;have E1:(0:Int)<=(k:Int):=by omega
           have C3:wd.cell? ⟨gt,1,none⟩=some u1:=a3.out.tk.cell (k:=1) rfl;have C4:wd.cell? ⟨gt,2,none⟩=some u2:=a3.out.tk.cell (k:=2) rfl;by_cases hx:0<x
           ·have B7:decide (0<x)=true:=DU hx
            go_wp2_with (at_builtin;refine wpList_append_own_at _ rfl _ _ 29 rfl w7.heap.size 4 iB (.bool false) 1 1 Tryz.underlying29 BF.out BZ0.out BZ1.out BZ2.out rfl (by decide) (.slice Af lf.length cf) lf.length _ rfl (World.ownsRow.alloc a2.out _) ⟨wd.heap.size,0,none⟩ 1 1 [.bool true] rfl rfl (cell_one_new _ _ _) (by simp [Value.oneCell']) (by unfold maxLen;omega) (by omega) (by simp;omega) ?_)
            intro v' w9 o I _ M;obtain ⟨a0,Q⟩:=a3.out.grownB a2.out e5.out I;have c7:=zh a0;have b5:Hid (za wR w9):=Below.trans g1.out Q;have c9:Hid (w7.heap.size<=w9.heap.size):=by have:=I.size;simp at this;show _<=_;omega
            have b8:Hid (OwnB w9 w7.heap.size v' (lf++[true])):=OwnB.app o;clear a0 Q o I M
            go_wp2_with fail
            go_roundg (n - (k+1))
            case measure=>omega
            case rel=>exact ⟨k+1,lf++[true],by go_num,d7,rfl,by have:=e2.out;simp;omega,c7.out,b5.out,b8.out,c9.out⟩
           ·have B7:decide (0<x)=false:=DV hx
            go_wp2_with fail
            refine (zL (k:Int) wd (Ae.of_own a3.out.o1) (by have:=k3.out;omega)).mono ?_;rintro e w' ⟨rfl,rfl⟩;generalize decide ((k:Int)∈l1)=b1
            cases b1 with
            | true=>
             go_wp2_with (at_builtin;refine wpList_append_own_at _ rfl _ _ 29 rfl w7.heap.size 4 iB (.bool false) 1 1 Tryz.underlying29 BF.out BZ0.out BZ1.out BZ2.out rfl (by decide) (.slice Af lf.length cf) lf.length _ rfl (World.ownsRow.alloc a2.out _) ⟨wd.heap.size,0,none⟩ 1 1 [.bool true] rfl rfl (cell_one_new _ _ _) (by simp [Value.oneCell']) (by unfold maxLen;omega) (by omega) (by simp;omega) ?_)
             intro v' w9 o I _ M;obtain ⟨a0,Q⟩:=a3.out.grownB a2.out e5.out I;have c7:=zh a0;have b5:Hid (za wR w9):=Below.trans g1.out Q;have c9:Hid (w7.heap.size<=w9.heap.size):=by have:=I.size;simp at this;show _<=_;omega
             have b8:Hid (OwnB w9 w7.heap.size v' (lf++[true])):=OwnB.app o;clear a0 Q o I M
             go_wp2_with fail
             go_roundg (n - (k+1))
             case measure=>omega
             case rel=>exact ⟨k+1,lf++[true],by go_num,d7,rfl,by have:=e2.out;simp;omega,c7.out,b5.out,b8.out,c9.out⟩
            | false=>
             go_wp2_with fail
             refine (zL (k:Int) wd (Ae.of_own a3.out.o2) (by have:=k4.out;omega)).mono ?_;rintro e w' ⟨rfl,rfl⟩;generalize decide ((k:Int)∈l2)=b2
             go_wp2_with (at_builtin;refine wpList_append_own_at _ rfl _ _ 29 rfl w7.heap.size 4 iB (.bool false) 1 1 Tryz.underlying29 BF.out BZ0.out BZ1.out BZ2.out rfl (by decide) (.slice Af lf.length cf) lf.length _ rfl (World.ownsRow.alloc a2.out _) ⟨wd.heap.size,0,none⟩ 1 1 [.bool b2] rfl rfl (cell_one_new _ _ _) (by simp [Value.oneCell']) (by unfold maxLen;omega) (by omega) (by simp;omega) ?_)
             intro v' w9 o I _ M;obtain ⟨a0,Q⟩:=a3.out.grownB a2.out e5.out I;have c7:=zh a0;have b5:Hid (za wR w9):=Below.trans g1.out Q;have c9:Hid (w7.heap.size<=w9.heap.size):=by have:=I.size;simp at this;show _<=_;omega
             have b8:Hid (OwnB w9 w7.heap.size v' (lf++[b2])):=OwnB.app o;clear a0 Q o I M
             go_wp2_with fail
             go_roundg (n - (k+1))
             case measure=>omega
             case rel=>exact ⟨k+1,lf++[b2],by go_num,d7,rfl,by have:=e2.out;simp;omega,c7.out,b5.out,b8.out,c9.out⟩
          ·skip
           have q8:k=n:=by omega
           have v5:=zh q8;have C5:decide (k<n)=false:=DV (by omega);have C6:decide ((k:Int)<(n:Int))=false:=DV (by omega);have C7:¬ k<n:=by omega
           clear q8 hge2;have e6:=G.out.1.ext hQ.out.2.1;have m5:wr.cell? ⟨gm,5,none⟩=some vT:=e6.mz.cell (k:=5) rfl;have hf:=fun j=>e6.mz.frozen j
           have d4:∀j,wr.frozen? ⟨gm,j,none⟩=false:=hf;obtain ⟨A1,c1,rfl,-⟩:=AA hQ.out.1.o1;obtain ⟨A2,c2,rfl,-⟩:=AA hQ.out.1.o2;have t0:wr.cell? ⟨gt,0,none⟩=some (.string s):=hQ.out.1.tk.cell (k:=0) rfl;have t1:wr.cell? ⟨gt,1,none⟩=some (.slice A1 l1.length c1):=hQ.out.1.tk.cell (k:=1) rfl;have t2:wr.cell? ⟨gt,2,none⟩=some (.slice A2 l2.length c2):=hQ.out.1.tk.cell (k:=2) rfl;have a1:=zh e6;clear e6 hf
           go_wp2_with (at_builtin;refine wpList_append_own_at _ rfl _ _ 30 rfl B 87 iT (.agg #[.string ⟨#[]⟩,.slice none 0 0,.slice none 0 0]) 3 64 Tryz.underlying30 TF.out TZ0.out TZ1.out TZ2.out rfl (by decide) vT t _ rfl (a1.out.T.alloc _) ⟨wr.heap.size,0,none⟩ 1 1 [.string s,.slice A1 l1.length c1,.slice A2 l2.length c2] rfl rfl (cells3n _ _ _ _ _) (by simp [Value.oneCell']) (by unfold maxLen;omega) (by omega) (by have:=a1.out.hB;simp;omega) ?_)
           intro v' w9 o I _ M;obtain ⟨gv,cv,rfl,-,-⟩:=World.ownsRow.form o (by omega);obtain ⟨l7,m9,n2⟩:=a1.out.end1 hQ.out.1 k3.out k4.out hQ.out.2.2.1 o I;have D:w9.heap[gm]?=wr.heap[gm]?:=(I.block gm (by have:=zc a1.out.mz;simp;omega) (fun e=>zl a1.out.T a1.out.mz (by decide) e.symm)).trans (Ej _ _ _ (zc a1.out.mz));have n6:w9.cell? ⟨gm,5,none⟩=some vT:=(Eg (a:=⟨gm,5,none⟩) D).trans m5;have p6:w9.frozen? ⟨gm,5,none⟩=false:=(Ep (a:=⟨gm,5,none⟩) D).trans (d4 5);have J:=zh l7;have k7:=zh m9;have j5:Hid (za w1 (w9.setCell ⟨gm,5,none⟩ (.slice (some ⟨gv,0,none⟩) (t+1) cv))):=Below.trans (za.trans G.out.2 hQ.out.2.1) (HB.out ▸ n2);clear l7 m9 n2 o I M D m5 d4 t0 t1 t2;go_upto_region 27 with fail;clear n6 p6;generalize w9.setCell ⟨gm,5,none⟩ (.slice (some ⟨gv,0,none⟩) (t+1) cv)=wv at*;obtain ⟨Af,cf,rfl,-,-⟩:=k7.out.bools;have m3:wv.cell? ⟨gm,3,none⟩=some vF:=J.out.mz.cell (k:=3) rfl;have d4:∀j,wv.frozen? ⟨gm,j,none⟩=false:=fun j=>J.out.mz.frozen j
           have v6:Hid (∀g,(Value.slice Af lf.length cf).ownBlock=some g->g<wr.heap.size):=fun g I=>(World.ownsRow.lt hQ.out.2.2.1 g I).2
           go_wp2_with (at_builtin;refine wpList_append_own_at _ rfl _ _ 28 rfl B 29 iL (.slice none 0 0) 1 24 Tryz.underlying28 LF.out LZ0.out LZ1.out LZ2.out rfl (by decide) vF t _ rfl (J.out.F.alloc _) ⟨wv.heap.size,0,none⟩ 1 1 [.slice Af lf.length cf] rfl rfl (cell_one_new _ _ _) (by simp [Value.oneCell']) (by unfold maxLen;omega) (by omega) (by have:=J.out.hB;simp;omega) ?_)
           intro v2 w9 o I _ M;obtain ⟨gv2,cv2,rfl,-,-⟩:=World.ownsRow.form o (by omega);obtain ⟨l8,n3⟩:=J.out.end2 k7.out (e2.out.trans v5.out) (DT h6 e5.out) v6.out o I;have D:w9.heap[gm]?=wv.heap[gm]?:=(I.block gm (by have:=zc J.out.mz;simp;omega) (fun e=>zl J.out.F J.out.mz (by decide) e.symm)).trans (Ej _ _ _ (zc J.out.mz));have n6:w9.cell? ⟨gm,3,none⟩=some vF:=(Eg (a:=⟨gm,3,none⟩) D).trans m3;have p6:w9.frozen? ⟨gm,3,none⟩=false:=(Ep (a:=⟨gm,3,none⟩) D).trans (d4 3);have v7:=zh l8;have j7:Hid (za w1 (w9.setCell ⟨gm,3,none⟩ (.slice (some ⟨gv2,0,none⟩) (t+1) cv2))):=Below.trans j5.out (HB.out ▸ n3);clear l8 n3 o I M D m3 d4
           go_wp2_with fail
           go_roundg (many - (t+1))
           case measure=>omega
           case rel=>exact ⟨t+1,_,_,_,_,by go_num,h5,rfl,v7.out,j7.out⟩
    ·skip
     have B4:t=many:=by omega
     subst B4;have D0:decide (t<t)=false:=DV (by omega);have l4:0<t:=by omega
     obtain ⟨gT,cT,rfl,q4,-⟩:=World.ownsRow.form G.out.1.T l4;obtain ⟨gF,cF,rfl,q3,-⟩:=World.ownsRow.form G.out.1.F l4;have HcT:=zh (Bx G.out.1.T);have HcF:=zh (Bx G.out.1.F);clear hge;have l9:=zh (G.out.1);have n1:=zh (G.out.2);clear G
     go_wp2_with fail
     have m7:Hid (MS B wR wR.heap.size gm gd W H L n t t (.slice (some ⟨gF,0,none⟩) t cF) (.slice none 0 0) (.slice (some ⟨gT,0,none⟩) t cT) fs ts/\za w1 wR):=⟨l9.out,n1.out⟩;clear l9 n1;refine loop12_wp HB q4 q3 HcT HcF f0 r5 m7 (fun c a a' W he h=>(show a'.defers=[]/\Az w (.panicked c) W from ⟨he ▸ (show a.defers=[]/\Az w (.panicked c) W from h).1,(show a.defers=[]/\Az w (.panicked c) W from h).2⟩)) fun wA hA x13 x14 x143 x144 x145 x146 x147 x148 x149 x150 x151 x152 x153 x154 x155 x156 x157 x158 x159 x160 x161 x162 x163 x164 x165 x166 x167 x168 x169 x170 x171 x172 x173 x174 x175 x176 x177 x178 x179 x180 x181 x182 x183 x184 x185 x186 x187 x188 x189 x190 x191 x192 x193 x194 x195 x196 x197 x198 x199 x200 x201 x202 x203 x204 x205=>?_;clear m7;obtain ⟨a,A5⟩:=EY t;subst A5
     go_wp2_with fail
     have hA0:=hA.out;obtain ⟨S,hS⟩:=EY wA.heap.size;have k8:Hid (RU w1 B wA S gm gd W H L n a a (.slice (some ⟨gF,0,none⟩) a cF) (.slice none 0 0) (.slice (some ⟨gT,0,none⟩) a cT) fs ts []):=⟨HB.out,hS ▸ hA0.1.hB,hS ▸ hA0.1,World.ownsRow_nil _ _ _ _,hA0.2⟩;clear hA0 hS hA
     go_loopg [15] n (fun gk v wr=>∃(i:Nat) (vU:Value) (us:List Bool),v=.int .i64 i/\i<=n/\gk=n - i/\us.length=i/\Hid (RU w1 B wr S gm gd W H L n a a (.slice (some ⟨gF,0,none⟩) a cF) vU (.slice (some ⟨gT,0,none⟩) a cT) fs ts us))
     case atStart=>exact ⟨0,_,[],rfl,Ef _,rfl,rfl,k8.out⟩
     clear k8
     case round=>
      obtain ⟨i,vU,us,rfl,hi,rfl,h8,hQ⟩:=hrel;obtain ⟨wU,rfl⟩:∃wU:World,wU=wr:=⟨_,rfl⟩;rcases En i n with hin | hin
      ·have q6:decide (i<n)=true:=DU hin;have q7:decide ((i:Int)<(n:Int))=true:=DU (by omega);have D4:Hid (za w1 wU):=hQ.out.ex;have s1:us.length<=16:=by omega
       have x7:=zh h8;clear h8;go_upto_region 42 with fail;refine r42_wp hQ s1 (fun c a a' W he h=>(show a'.defers=[]/\Az w (.panicked c) W from ⟨he ▸ (show a.defers=[]/\Az w (.panicked c) W from h).1,(show a.defers=[]/\Az w (.panicked c) W from h).2⟩)) fun vU' x w2 h9 x211 x212 x213 x214 x215 x216 x217 x218=>?_;have x4:=zh h9;clear h9
       go_wp2_with fail
       go_roundg (n - (i+1))
       case measure=>omega
       case rel=>exact ⟨i+1,_,_,by go_num,hin,rfl,by rw [DZ,x7.out];rfl,x4.out⟩
      ·have q6:decide (i<n)=false:=DV (by omega);have q7:decide ((i:Int)<(n:Int))=false:=DV (by omega);have s2:us.length=n:=by omega
       obtain ⟨Au,cu,s4,-,-⟩:=OwnB.bools hQ.out.ow;rw [h8] at s4;subst s4;have a4:=k9.out;obtain ⟨mm,nn,r6,m6,m8⟩:=RU.maze hQ.out a4.1 a4.2.1 a4.2.2 HN.out r5 s2;have x0:=zh r6;have w0:=zh m6;have x3:=zh m8;have K:zd wU w.heap.size 32 #[.int .i64 0,.int .i64 0,.int .i64 0,.slice none 0 0,.slice none 0 0,.slice none 0 0]:=c8.out.1.ext hQ.out.ex;have z0:wU.cell? ⟨w.heap.size,0,none⟩=some (.int .i64 0):=K.cell (k:=0) rfl;have z1:wU.cell? ⟨w.heap.size,1,none⟩=some (.int .i64 0):=K.cell (k:=1) rfl;have z2:wU.cell? ⟨w.heap.size,2,none⟩=some (.int .i64 0):=K.cell (k:=2) rfl;have z3:wU.cell? ⟨w.heap.size,3,none⟩=some (.slice none 0 0):=K.cell (k:=3) rfl;have z4:wU.cell? ⟨w.heap.size,4,none⟩=some (.slice none 0 0):=K.cell (k:=4) rfl;have z5:wU.cell? ⟨w.heap.size,5,none⟩=some (.slice none 0 0):=K.cell (k:=5) rfl;have hfz:∀j,wU.frozen? ⟨w.heap.size,j,none⟩=false:=fun j=>K.frozen j
       have m0:wU.cell? ⟨gm,0,none⟩=some (.int .i64 W):=hQ.out.ms.mz.cell (k:=0) rfl;have m1:wU.cell? ⟨gm,1,none⟩=some (.int .i64 H):=hQ.out.ms.mz.cell (k:=1) rfl;have m2:wU.cell? ⟨gm,2,none⟩=some (.int .i64 L):=hQ.out.ms.mz.cell (k:=2) rfl;have m3:wU.cell? ⟨gm,3,none⟩=some (.slice (some ⟨gF,0,none⟩) a cF):=hQ.out.ms.mz.cell (k:=3) rfl;have m4:wU.cell? ⟨gm,4,none⟩=some (.slice Au i cu):=hQ.out.ms.mz.cell (k:=4) rfl;have m5:wU.cell? ⟨gm,5,none⟩=some (.slice (some ⟨gT,0,none⟩) a cT):=hQ.out.ms.mz.cell (k:=5) rfl;have t3:=zh K;have v4:Hid (za w1 wU):=hQ.out.ex;clear a4 r6 m6 m8 K s2 hin hQ
       go_wp2_with fail
       refine case_fin (P:=fun W=>bodyPost Tryz.prog Tryz.f26 (Az w) Exit.ret _ W) (g2:=w.heap.size) ?_ t3.out;intro WZ a7 z7 V;have y0:WZ.cell? ⟨w.heap.size,0,none⟩=some (.int .i64 W):=a7.cell (k:=0) rfl;have y1:WZ.cell? ⟨w.heap.size,1,none⟩=some (.int .i64 H):=a7.cell (k:=1) rfl;have y2:WZ.cell? ⟨w.heap.size,2,none⟩=some (.int .i64 L):=a7.cell (k:=2) rfl;have y3:WZ.cell? ⟨w.heap.size,3,none⟩=some (.slice (some ⟨gF,0,none⟩) a cF):=a7.cell (k:=3) rfl;have y4:WZ.cell? ⟨w.heap.size,4,none⟩=some (.slice Au i cu):=a7.cell (k:=4) rfl;have y5:WZ.cell? ⟨w.heap.size,5,none⟩=some (.slice (some ⟨gT,0,none⟩) a cT):=a7.cell (k:=5) rfl;have B8:za w wU:=b3.out.trans v4.out;have B0:=x0.out.keepW (w':=WZ) (ok':=fun b=>w.heap.size<=b) (fun b hb h5=>V b h5 (by have:=c8.out.2;have:=HB.out;omega)) (fun b hb=>by have:=c8.out.2;have:=HB.out;omega)
       exact EL (v:=.agg #[.int .i64 W,.int .i64 H,.int .i64 L,.slice (some ⟨gF,0,none⟩) a cF,.slice Au i cu,.slice (some ⟨gT,0,none⟩) a cT]) (by simp [results,Tryz.results26,go_sem,y0,y1,y2,y3,y4,y5]) rfl
        ⟨_,mm,nn,rfl,Below.trans B8 z7,B0,w0.out,x3.out⟩
theorem made_calls (w:World) (G:zR w ok v ls) (o:ls.length<=9223372036854775807) (D:∀l∈ls,l.length<=9223372036854775807):
  Calls Tryz.prog 26 #[v] w (MadePost w):=
 (madeN_calls w G o D).mono fun e w' ⟨v',m,ns,h1,h2,h3,E,_⟩=>⟨v',m,h1,h2,h3.maze,E⟩
end
section
open Go.RowKit
theorem Di (a b:Int):Lens (exM a b):=⟨by simp [exM],by simp [exM],by simp [exM],fun t ht=>by
 simp only [exM,EG,EN,or_false] at ht;rcases ht with rfl | rfl <;> simp⟩
theorem sideP_len (m:MZ) (ch:List Int) (t:Nat):(BI m ch t).length<=1000:=by
 unfold BI Cf
 split
 ·rename_i h
  unfold Cm;refine DT (Eu _ _) ?_;have h1:=(AN.of h.1).dim.n1;have h2:m.n=m.w*m.h*m.l:=rfl;simp;omega
 ·simp
theorem candO_len {m:MZ} (o:Lens m) (ch:List Int):(zu m ch).length<=400000000000:=by
 unfold zu
 split
 ·exact CE o ch
 ·simp
end
section
open Go.RowKit Go.Shelf
def sStr_ren:Go.Shelf.Ren:=⟨fun | 169=>86 | n=>n,fun | 70=>132 | 9=>9 | 0=>0 | 72=>134 | 37=>76 | 127=>208 | 3=>3 | 5=>5 | n=>n,fun | n=>n⟩
theorem sStr:Go.Proofs.Lays.n169 Tryz.prog sStr_ren:=by
 constructor
 iterate 4 (all_goals first | kernel_rfl | (intro _;kernel_rfl) | exact ⟨_,by decide,by kernel_rfl⟩ | constructor)
def sItoa_ren:Go.Shelf.Ren:=⟨fun | 171=>107 | 243=>168 | 246=>216 | 283=>230 | 284=>231 | 285=>232 | 286=>233 | 129=>242 | 317=>241 | 318=>243 | 319=>244 | 320=>245 | 337=>259 | 338=>260 | n=>n,fun | 3=>3 | 9=>9 | 2=>2 | 4=>4 | 171=>256 | 0=>0 | 53=>252 | 37=>76 | 5=>5 | 173=>259 | 212=>267 | 51=>268 | 20=>20 | 213=>269 | 46=>226 | 232=>291 | 233=>292 | n=>n,fun | 17=>0 | 18=>1 | 19=>2 | n=>n⟩
theorem sItoa:Go.Proofs.LaysM.n171 Tryz.prog sItoa_ren:=by
 constructor
 iterate 4 (all_goals first | kernel_rfl | (intro _;kernel_rfl) | exact ⟨_,by decide,by kernel_rfl⟩ | constructor)
def sAtoi_ren:Go.Shelf.Ren:=⟨fun | 172=>235 | 244=>247 | 245=>248 | 247=>262 | 279=>263 | 280=>264 | 281=>265 | 282=>266 | 287=>277 | 316=>237 | 171=>107 | 205=>278 | 321=>282 | 322=>283 | 243=>168 | 246=>216 | 283=>230 | 284=>231 | 285=>232 | 286=>233 | 129=>242 | 317=>241 | 318=>243 | 319=>244 | 320=>245 | 337=>259 | 338=>260 | n=>n,fun | 9=>9 | 3=>3 | 75=>136 | 76=>137 | 4=>4 | 5=>5 | 167=>279 | 37=>76 | 0=>0 | 85=>280 | 2=>2 | 168=>282 | 53=>252 | 175=>294 | 46=>226 | 210=>297 | 127=>208 | 145=>308 | 143=>306 | 21=>21 | 171=>256 | 173=>259 | 212=>267 | 51=>268 | 20=>20 | 213=>269 | 232=>291 | 233=>292 | 80=>144 | n=>n,fun | 15=>4 | 16=>5 | 17=>0 | 18=>1 | 19=>2 | n=>n⟩
theorem sAtoi:Go.Proofs.LaysC.n172 Tryz.prog sAtoi_ren:=by
 constructor
 iterate 4 (all_goals first | kernel_rfl | (intro _;kernel_rfl) | exact ⟨_,by decide,by kernel_rfl⟩ | constructor)
def sIdx_ren:Go.Shelf.Ren:=⟨fun | 219=>261 | 217=>273 | 225=>274 | 224=>275 | 267=>276 | 266=>280 | 314=>281 | n=>n,fun | 9=>9 | 3=>3 | 4=>4 | 5=>5 | 46=>226 | 146=>302 | 51=>268 | n=>n,fun | 1=>3 | n=>n⟩
theorem sIdx:Go.Proofs.Lays.n219 Tryz.prog sIdx_ren:=by
 constructor
 iterate 4 (all_goals first | kernel_rfl | (intro _;kernel_rfl) | exact ⟨_,by decide,by kernel_rfl⟩ | constructor)
theorem sExt:Builder.Extra Tryz.prog sStr_ren:=by
 constructor
 iterate 4 (all_goals first | kernel_rfl | (intro _;kernel_rfl) | decide | constructor)
end
section
open Go.RowKit Go.Shelf
attribute [local go_sem ↓] Go.wp_at_zero Go.wp_at_succ
abbrev Bui (B:Nat) (bs:List Value) (w:World):Prop:=Lib.IsBuilderF 134 5 B B bs w
abbrev BuiU (B:Nat) (bs:List Value) (w:World):Prop:=Lib.BuilderAtF 134 5 B B (.pointer (some ⟨B,0,none⟩)) bs w
theorem Bui.old {w':World} (h:Bui B bs w) (o:za w w'):Bui B bs w':=by
 have f:∀p,Lib.BuilderAtF 134 5 B B p bs w->Lib.BuilderAtF 134 5 B B p bs w':=fun p h=>by
  have E:=h.lt;obtain ⟨I,v,J,D,G⟩:=h;exact ⟨I,v,(o.block B E).trans J,D.kept (row:=none) ⟨o.os,o.tape,o.output,o.size,fun k K _=>o.block k K⟩ (by cases h:v.ownBlock <;> simp),G⟩
 exact h.imp (f _) (f _)
theorem Bui.new (w:World):Bui w.heap.size [] (w.alloc (.cells #[.pointer none,.slice none 0 0] 134)):=Lib.IsBuilderF.of (Lib.fresh_isBuilder _ _ w)
theorem ptrInfo:∃j,Tryz.prog.info? 134=some j/\j.size=2:=Option.map_eq_some_iff.1 sExt.sizeBuilder
theorem ccUsed (B:Nat) (w:World) (h0:w.cell? ⟨B,0,none⟩=some (.pointer (some ⟨B,0,none⟩))):Calls Tryz.prog 152 #[.pointer (some ⟨B,0,none⟩)] w fun e w'=>e=.returned (.tuple #[])/\w=w':=by
 obtain ⟨j,o,-⟩:=ptrInfo;have D:=Lib.run_neq_ptr_same w ⟨B,0,none⟩ Tryz.underlying132 o
 go_enter Tryz.func152,Tryz.ntmps152
 go_wp2;exact bodyPost_end (results_none rfl _ _ _) rfl ⟨rfl,rfl⟩
theorem ccNew (B:Nat) (w:World) (h0:w.cell? ⟨B,0,none⟩=some (.pointer none)) (E:w.shape? B=some (134,2)) (hf:w.frozen? ⟨B,0,none⟩=false):Calls Tryz.prog 152 #[.pointer (some ⟨B,0,none⟩)] w fun e w'=>e=.returned (.tuple #[])/\w'=w.setCell ⟨B,0,none⟩ (.pointer (some ⟨B,0,none⟩)):=by
 obtain ⟨j,D,o⟩:=ptrInfo;have c1:=Lib.run_to_unsafe w ⟨B,0,none⟩ Tryz.underlying132 Tryz.underlying239 D (by rw [o];decide) E (Nat.zero_lt_succ 1);have c2:=run_callFunc_extern Tryz.func208 (by kernel_rfl) (by kernel_rfl) (by kernel_rfl) (e:=Extern.AbiNoEscape.same) (by kernel_rfl) (args:=#[.pointer (some ⟨B,0,none⟩)]) (w:=w);have c3:=Lib.run_from_unsafe w ⟨B,0,none⟩ Tryz.underlying239 Tryz.underlying132 D E sExt.liesBuilder;rw [Lib.run_noEscape] at c2
 go_enter Tryz.func152,Tryz.ntmps152
 go_wp2;exact bodyPost_end (results_none rfl _ _ _) rfl ⟨rfl,rfl⟩
theorem cc_calls (h:Bui B bs w):Calls Tryz.prog 152 #[.pointer (some ⟨B,0,none⟩)] w fun e w'=>e=.returned (.tuple #[])/\BuiU B bs w'/\Below B w w':=by
 rcases h with h | h
 ·refine (ccNew B w h.cell0 h.shape h.frozen0).mono ?_;rintro e w' ⟨rfl,rfl⟩;exact ⟨rfl,h.used _,(Below.refl B w).setCell (p:=⟨B,0,none⟩) (DR _) _⟩
 ·refine (ccUsed B w h.cell0).mono ?_;rintro e w' ⟨rfl,rfl⟩;exact ⟨rfl,h,Below.refl B w⟩
theorem lt_heap {b:Nat} {o:Obj} (h:w.heap[b]?=some o):b<w.heap.size:=(EM.1 h).1
theorem wByte_calls (c:Int) (h:Bui B bs w) (hl:bs.length+1<=140737488355328):
  Calls Tryz.prog 169 #[.pointer (some ⟨B,0,none⟩),.int .u8 c] w fun e w'=>e=.returned .nilIface/\BuiU B (bs++[.int .u8 c]) w'/\Below B w w':=by
 obtain ⟨i0,hi,O,Q,U⟩:=info_parts sExt.infoByte;have H:=zh h;clear h
 go_enter Tryz.func169,Tryz.ntmps169
 go_wp2_with fail
 refine (cc_calls H.out).mono ?_;rintro e w1 ⟨rfl,⟨V,v,G,D,L⟩,J⟩;have c1:w1.cell? ⟨B,1,none⟩=some v:=by rw [Lib.cell_of_heap G];rfl
 have K:=lt_heap G
 go_wp2_with (at_builtin;refine wpList_append_ownF _ rfl _ _ 76 rfl B 5 i0 (.int .u8 0) 1 1 Tryz.underlying76 hi O Q U rfl (by decide) _ _ _ rfl (D.alloc _) ⟨w1.heap.size,0,none⟩ 1 1 [.int .u8 c] rfl rfl ?c1 ?c2 ?c3 ?c4 ?c5 ?_)
 case c1=>
  intro j u I
  match j,I with
  | 0,I=>simp at I;subst I;simp [Addr.add]
 case c2=>intro u hu;simp at hu;subst hu;rfl
 case c3=>unfold maxLen;omega
 case c4=>omega
 case c5=>simp;omega
 intro v' w2 o hg _
 have E:w2.heap[B]?=some (.cells #[.pointer (some ⟨B,0,none⟩),v] 134 (0,0)):=by
  rw [hg.block B (by simp;omega) (fun e=>L e.symm),Lib.alloc_old w1 _ B K];exact G
 have d1:w2.cell? ⟨B,1,none⟩=some v:=by rw [Lib.cell_of_heap E];rfl
 have f1:w2.frozen? ⟨B,1,none⟩=false:=Lib.frozen_of_heap E 1
 obtain ⟨ao,n',cap,rfl⟩:∃ao n' cap,v'=.slice ao n' cap:=by
  rcases o.2 with ⟨M,_⟩ | ⟨g,cap,cur,fz,M,_⟩
  ·exact ⟨_,_,_,M⟩
  ·exact ⟨_,_,_,M⟩
 go_wp2;go_ret;refine ⟨rfl,Lib.BuilderAtF.put (T:=134) (e:=5) V E (bs':=bs++[.int .u8 c]) (by simpa using o) (by decide),?_⟩;exact ((J.alloc (by omega) _).grown hg (by simp;omega) (fun k hk=>(D.lt k hk).1)).setCell (p:=⟨B,1,none⟩) V _
theorem wString_calls (s:ByteArray) (h:Bui B bs w) (hl:bs.length+s.size<=140737488355328):
  Calls Tryz.prog 81 #[.pointer (some ⟨B,0,none⟩),.string s] w fun e w'=>e=.returned (.tuple #[.int .i64 s.size,.nilIface])/\BuiU B (bs++Lib.strCells s) w'/\Below B w w':=by
 obtain ⟨i0,hi,M,O,Q⟩:=info_parts sExt.infoByte;have H:=zh h;clear h
 go_enter Tryz.func81,Tryz.ntmps81
 go_wp2_with fail
 refine (cc_calls H.out).mono ?_;rintro e w1 ⟨rfl,⟨U,v,G,D,K⟩,I⟩;have c1:w1.cell? ⟨B,1,none⟩=some v:=by rw [Lib.cell_of_heap G];rfl
 have J:=lt_heap G
 go_wp2_with (at_builtin;refine Lib.wpList_append_own_stringF _ rfl _ _ 76 9 rfl B 5 i0 Tryz.underlying76 Tryz.underlying9 hi M O Q _ _ _ rfl D s rfl ?c3 ?c4 ?c5 ?_)
 case c3=>unfold maxLen;omega
 case c4=>omega
 case c5=>omega
 intro v' w2 o V _
 have E:w2.heap[B]?=some (.cells #[.pointer (some ⟨B,0,none⟩),v] 134 (0,0)):=by
  rw [V.block B J (fun e=>K e.symm)];exact G
 have d1:w2.cell? ⟨B,1,none⟩=some v:=by rw [Lib.cell_of_heap E];rfl
 have f1:w2.frozen? ⟨B,1,none⟩=false:=Lib.frozen_of_heap E 1
 obtain ⟨ao,n',cap,rfl⟩:∃ao n' cap,v'=.slice ao n' cap:=by
  rcases o.2 with ⟨L,_⟩ | ⟨g,cap,cur,fz,L,_⟩
  ·exact ⟨_,_,_,L⟩
  ·exact ⟨_,_,_,L⟩
 go_wp2
 go_ret2
 refine ⟨rfl,Lib.BuilderAtF.put (T:=134) (e:=5) U E (bs':=bs++Lib.strCells s) (by simpa [Lib.strCells_length] using o) (by decide),?_⟩;exact (I.grown V (by omega) (fun k hk=>(D.lt k hk).1)).setCell (p:=⟨B,1,none⟩) U _
theorem bOut_calls {l:List UInt8} (h:Bui B (Lib.byteCells l) w) (o:B<=w.heap.size):Calls Tryz.prog 86 #[.pointer (some ⟨B,0,none⟩)] w fun e w'=>e=.returned (.string ⟨l.toArray⟩)/\Below B w w':=
 (Any.Builder_String_any_k sStr sExt B B l w h o).mono fun e w' h=>⟨h.1,h.2.2.1⟩
end
end Go.Proofs.YtjomnbdjajjgfaaGreatDoor
