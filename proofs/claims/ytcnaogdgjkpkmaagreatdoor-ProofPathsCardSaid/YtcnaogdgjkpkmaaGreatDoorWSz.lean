import Derived.Test.YtcnaogdgjkpkmaaGreatDoorWSy
import Derived.Deep.LoopGhost
import Derived.Deep.AppendLies
import Derived.StillTailTactics
set_option linter.unusedVariables false
set_option linter.unusedSimpArgs false
set_option maxRecDepth 100000
set_option maxHeartbeats 16000000
namespace Go.Proofs.YtcnaogdgjkpkmaaGreatDoor
section
open Go.RowKit
attribute [local go_sem ↓] Go.wp_at_zero Go.wp_at_succ
def startsReg (n:Nat):Code->Bool
 | .region id _ _=>decide (id=n)
 | .seq a _=>startsReg n a
 | .block _ c=>startsReg n c
 | _=>false
def Cu (n:Nat):Code->Option Code
 | .loop c=>if startsReg n c=true then some (.loop c) else Cu n c
 | .seq a b=>match Cu n a with
  | some c=>some c
  | none=>Cu n b
 | .cond _ a b=>match Cu n a with
  | some c=>some c
  | none=>Cu n b
 | .block _ c=>Cu n c
 | _=>none
noncomputable def code12:Code:=(Tryz.f28.body.bind (Cu 29)).getD .skip
theorem loop12_wp {w1 wr0:World} {Q:Exit->Act->World->Prop} {B gm gd gF gT cF cT n t:Nat} {W H L:Int} {fs ts:List Value} {u0 u1 u2 u3 u7 u8 u9 u10 u11 u13 u14 u15 u16 u17 u18 u19 u20 u21 u22 u23 u24 u25 u26 u27 u28 u29 u30 u31 u32 u33 u34 u35 u36 u37 u38 u39 u40 u41 u42 u43 u44 u45 u46 u47 u48 u49 u50 u51 u52 u53 u54 u55 u56 u57 u58 u59 u60 u61 u62 u63 u64 u65 u66 u67 u68 u69 u70 u71 u72 u73 u74 u75 u76 u77 u78 u79 u80 u81 u82 u83 u84 u85 u86 u87 u88 u89 u90 u91 u92 u93 u94 u95 u96 u97 u98 u99 u100 u101 u102 u103 u104 u105 u106 u107 u108 u109 u110 u111 u112 u113 u114 u115 u116 u117 u118 u119 u120 u121 u122 u123 u124 u125 u126 u127 u128 u129 u130 u131 u132 u133 u134 u135 u136 u137 u138 u139 u140 u141 u142 u143 u144 u145 u146 u147 u148 u149 u150 u151 u152 u153 u154 u155 u156 u157 u158 u159 u160 u161 u162 u163 u164 u165 u166 u167 u168 u169 u170 u171 u172 u173 u174 u175 u176 u177 u178 u179 u180 u181 u182 u183 u184 u185 u186 u187 u188 u189 u190 u191 u192 u193 u194 u195 u196 u197 u198 u199 u200 u201 u202 u203 u204 u205 u206 u207 u208 u209 u210 u211 u212 u213 u214 u215 u216 u217 u218 u219:Value}
  (HB:Hid (B=w1.heap.size)) (e9:B<=gT) (e8:B<=gF) (HcT:Hid (t<=cT)) (HcF:Hid (t<=cF)) (f5:2<=n/\n<=16) (f4:1<=t/\t<=3)
  (hA0:Hid (MS B wr0 wr0.heap.size gm gd W H L n t t (.slice (some ⟨gF,0,none⟩) t cF) (.slice none 0 0) (.slice (some ⟨gT,0,none⟩) t cT) fs ts/\zc w1 wr0))
  (hP:∀c (a a':Act) w,a.defers=a'.defers->Q (.panic c) a w->Q (.panic c) a' w)
  (E:∀(w2:World),Hid (MS B w2 w2.heap.size gm gd W H L n t t (.slice (some ⟨gF,0,none⟩) t cF) (.slice none 0 0) (.slice (some ⟨gT,0,none⟩) t cT) fs ts/\zc w1 w2)->∀(x13 x14 x143 x144 x145 x146 x147 x148 x149 x150 x151 x152 x153 x154 x155 x156 x157 x158 x159 x160 x161 x162 x163 x164 x165 x166 x167 x168 x169 x170 x171 x172 x173 x174 x175 x176 x177 x178 x179 x180 x181 x182 x183 x184 x185 x186 x187 x188 x189 x190 x191 x192 x193 x194 x195 x196 x197 x198 x199 x200 x201 x202 x203 x204 x205:Value),Q (.exit 4) ⟨(u0 :: u1 :: u2 :: u3 :: Value.pointer (some ⟨gm,0,none⟩) :: Value.int .i64 (n:Nat) :: Value.int .i64 (t:Nat) :: u7 :: u8 :: u9 :: u10 :: u11 :: Value.int .i64 (t:Nat) :: x13 :: x14 :: u15 :: u16 :: u17 :: u18 :: u19 :: u20 :: u21 :: u22 :: u23 :: u24 :: u25 :: u26 :: u27 :: u28 :: u29 :: u30 :: u31 :: u32 :: u33 :: u34 :: u35 :: u36 :: u37 :: u38 :: u39 :: u40 :: u41 :: u42 :: u43 :: u44 :: u45 :: u46 :: u47 :: u48 :: u49 :: u50 :: u51 :: u52 :: u53 :: u54 :: u55 :: u56 :: u57 :: u58 :: u59 :: u60 :: u61 :: u62 :: u63 :: u64 :: u65 :: u66 :: u67 :: u68 :: u69 :: u70 :: u71 :: u72 :: u73 :: u74 :: u75 :: u76 :: u77 :: u78 :: u79 :: u80 :: u81 :: u82 :: u83 :: u84 :: u85 :: u86 :: u87 :: u88 :: u89 :: u90 :: u91 :: u92 :: u93 :: u94 :: u95 :: u96 :: u97 :: u98 :: u99 :: u100 :: u101 :: u102 :: u103 :: u104 :: u105 :: u106 :: u107 :: u108 :: u109 :: u110 :: u111 :: u112 :: u113 :: u114 :: u115 :: u116 :: u117 :: u118 :: u119 :: u120 :: u121 :: u122 :: u123 :: u124 :: u125 :: u126 :: u127 :: u128 :: u129 :: u130 :: u131 :: u132 :: u133 :: u134 :: u135 :: u136 :: u137 :: u138 :: u139 :: u140 :: u141 :: u142 :: x143 :: x144 :: x145 :: x146 :: x147 :: x148 :: x149 :: x150 :: x151 :: x152 :: x153 :: x154 :: x155 :: x156 :: x157 :: x158 :: x159 :: x160 :: x161 :: x162 :: x163 :: x164 :: x165 :: x166 :: x167 :: x168 :: x169 :: x170 :: x171 :: x172 :: x173 :: x174 :: x175 :: x176 :: x177 :: x178 :: x179 :: x180 :: x181 :: x182 :: x183 :: x184 :: x185 :: x186 :: x187 :: x188 :: x189 :: x190 :: x191 :: x192 :: x193 :: x194 :: x195 :: x196 :: x197 :: x198 :: x199 :: x200 :: x201 :: x202 :: x203 :: x204 :: x205 :: u206 :: u207 :: u208 :: u209 :: u210 :: u211 :: u212 :: u213 :: u214 :: u215 :: u216 :: u217 :: u218 :: u219 :: []).toArray,[]⟩ w2):
  code12.wp Tryz.prog Q ⟨(u0 :: u1 :: u2 :: u3 :: Value.pointer (some ⟨gm,0,none⟩) :: Value.int .i64 (n:Nat) :: Value.int .i64 (t:Nat) :: u7 :: u8 :: u9 :: u10 :: u11 :: Value.int .i64 0 :: u13 :: u14 :: u15 :: u16 :: u17 :: u18 :: u19 :: u20 :: u21 :: u22 :: u23 :: u24 :: u25 :: u26 :: u27 :: u28 :: u29 :: u30 :: u31 :: u32 :: u33 :: u34 :: u35 :: u36 :: u37 :: u38 :: u39 :: u40 :: u41 :: u42 :: u43 :: u44 :: u45 :: u46 :: u47 :: u48 :: u49 :: u50 :: u51 :: u52 :: u53 :: u54 :: u55 :: u56 :: u57 :: u58 :: u59 :: u60 :: u61 :: u62 :: u63 :: u64 :: u65 :: u66 :: u67 :: u68 :: u69 :: u70 :: u71 :: u72 :: u73 :: u74 :: u75 :: u76 :: u77 :: u78 :: u79 :: u80 :: u81 :: u82 :: u83 :: u84 :: u85 :: u86 :: u87 :: u88 :: u89 :: u90 :: u91 :: u92 :: u93 :: u94 :: u95 :: u96 :: u97 :: u98 :: u99 :: u100 :: u101 :: u102 :: u103 :: u104 :: u105 :: u106 :: u107 :: u108 :: u109 :: u110 :: u111 :: u112 :: u113 :: u114 :: u115 :: u116 :: u117 :: u118 :: u119 :: u120 :: u121 :: u122 :: u123 :: u124 :: u125 :: u126 :: u127 :: u128 :: u129 :: u130 :: u131 :: u132 :: u133 :: u134 :: u135 :: u136 :: u137 :: u138 :: u139 :: u140 :: u141 :: u142 :: u143 :: u144 :: u145 :: u146 :: u147 :: u148 :: u149 :: u150 :: u151 :: u152 :: u153 :: u154 :: u155 :: u156 :: u157 :: u158 :: u159 :: u160 :: u161 :: u162 :: u163 :: u164 :: u165 :: u166 :: u167 :: u168 :: u169 :: u170 :: u171 :: u172 :: u173 :: u174 :: u175 :: u176 :: u177 :: u178 :: u179 :: u180 :: u181 :: u182 :: u183 :: u184 :: u185 :: u186 :: u187 :: u188 :: u189 :: u190 :: u191 :: u192 :: u193 :: u194 :: u195 :: u196 :: u197 :: u198 :: u199 :: u200 :: u201 :: u202 :: u203 :: u204 :: u205 :: u206 :: u207 :: u208 :: u209 :: u210 :: u211 :: u212 :: u213 :: u214 :: u215 :: u216 :: u217 :: u218 :: u219 :: []).toArray,[]⟩ wr0:=by
 have a2:=zh hA0.out.1;have a3:=zh hA0.out.2;clear hA0;have J:=zh E;clear E
 conv=>arg 2;whnf
 go_loopg [12] t (fun gk v wr=>∃(a:Nat),v=.int .i64 a/\a<=t/\gk=t - a/\Hid (MS B wr wr.heap.size gm gd W H L n t t (.slice (some ⟨gF,0,none⟩) t cF) (.slice none 0 0) (.slice (some ⟨gT,0,none⟩) t cT) fs ts/\zc w1 wr))
 case atStart=>exact ⟨0,rfl,DR _,rfl,a2.out,a3.out⟩
 clear a2 a3
 case round=>
  obtain ⟨a,rfl,ha,rfl,hA⟩:=hrel;obtain ⟨wA,rfl⟩:∃wA:World,wA=wr:=⟨_,rfl⟩;rcases DZ a t with r | hage
  ·skip
   go_wp2_with fail
   go_loopg [13] t (fun gk v wr=>∃(b:Nat),v=.int .i64 b/\b<=t/\gk=t - b/\Hid (MS B wr wr.heap.size gm gd W H L n t t (.slice (some ⟨gF,0,none⟩) t cF) (.slice none 0 0) (.slice (some ⟨gT,0,none⟩) t cT) fs ts/\zc w1 wr))
   case atStart=>exact ⟨0,rfl,DR _,rfl,hA.out⟩
   clear hA
   case round=>
    obtain ⟨b,rfl,hb,rfl,hA⟩:=hrel;obtain ⟨wB,rfl⟩:∃wB:World,wB=wr:=⟨_,rfl⟩;rcases DZ b t with D | hbge
    ·go_wp2_with fail
     go_loopg [14] n (fun gk v wr=>∃(k:Nat),v=.int .i64 k/\k<=n/\gk=n - k/\Hid (MS B wr wr.heap.size gm gd W H L n t t (.slice (some ⟨gF,0,none⟩) t cF) (.slice none 0 0) (.slice (some ⟨gT,0,none⟩) t cT) fs ts/\zc w1 wr))
     case atStart=>exact ⟨0,rfl,DR _,rfl,hA.out⟩
     clear hA
     case round=>
      obtain ⟨k,rfl,hk,rfl,hA⟩:=hrel;by_cases M:k<n/\b≠a
      ·obtain ⟨O,d⟩:=M;have G:decide (k<n)=true:=DF O;have e5:decide ((k:Int)<(n:Int))=true:=DF (by omega);have a4:((b:Int)==(a:Int))=false:=by rw [DP];omega
       have a5:((b:Int) != (a:Int))=true:=by rw [bne_iff_ne];omega
       have c9:(b==a)=false:=by rw [DP];exact d
       have d4:(b != a)=true:=by rw [bne_iff_ne];exact d
       have d5:decide (b=a)=false:=DG d;have d9:=HcT.out;have d8:=HcF.out;have f3:(0:Int)<=(b:Int)/\(b:Int)<(t:Int):=by omega
       have c7:(0:Int)<=(a:Int)/\(a:Int)<(t:Int):=by omega
       have e4:(0:Int)<=(k:Int)/\(k:Int)<(n:Int):=by omega
       have hm:=hA.out.1;have m5:wr.cell? ⟨gm,5,none⟩=some (.slice (some ⟨gT,0,none⟩) t cT):=hm.mz.cell (k:=5) rfl;have m3:wr.cell? ⟨gm,3,none⟩=some (.slice (some ⟨gF,0,none⟩) t cF):=hm.mz.cell (k:=3) rfl;obtain ⟨sb,u1,u2,e0,e1,e2,l1,l2,o1,o2,-,⟨k1,k2⟩,-,-⟩:=hm.td b D;obtain ⟨sa,v1,v2,d0,d1,d2,p1,p2,q1,q2,-,⟨j1,j2⟩,-,-⟩:=hm.td a r;obtain ⟨uf,a8,lf,o,a9,-⟩:=hm.fd a r;have b7:0<lf.length:=by omega
       obtain ⟨gb,cb,rfl,b5,-⟩:=World.ownsRow.form o b7;have T1:wr.cell? ⟨gT,b*3+1,none⟩=some u1:=(hm.T.cellAt (b*3+1) (by omega)).trans e1;have T2:wr.cell? ⟨gT,b*3+2,none⟩=some u2:=(hm.T.cellAt (b*3+2) (by omega)).trans e2;have A1:wr.cell? ⟨gT,a*3+1,none⟩=some v1:=(hm.T.cellAt (a*3+1) (by omega)).trans d1;have A2:wr.cell? ⟨gT,a*3+2,none⟩=some v2:=(hm.T.cellAt (a*3+2) (by omega)).trans d2;have F1:wr.cell? ⟨gF,a,none⟩=some (.slice (some ⟨gb,0,none⟩) lf.length cb):=(hm.F.cellAt a (by omega)).trans a8;have e3:=AN o;have b0:∀j,wr.frozen? ⟨gb,j,none⟩=false:=fun j=>World.ownsRow.frozenAt o j
       have I:∃bo,wr.cell? ⟨gb,k,none⟩=some (.bool bo):=by
        have h1:=World.ownsRow.cellAt o k (by omega);rw [Ek,DA (by omega)] at h1;exact ⟨_,h1⟩
       obtain ⟨bo,I⟩:=I;have a0:Hid (∃cs,zj wr gb 4 cs):=own_blkB o;have f1:=zh a9;have b6:(k:Int)<(lf.length:Int):=by omega
       obtain ⟨b1,B1⟩:=hasB (k:Int) o1 (by omega);obtain ⟨b2,B2⟩:=hasB (k:Int) o2 (by omega);obtain ⟨b3,B3⟩:=hasB (k:Int) q1 (by omega);obtain ⟨b4,B4⟩:=hasB (k:Int) q2 (by omega);have U:=zh B1;have V:=zh B2;have b8:=zh B3;have b9:=zh B4;clear B1 B2 B3 B4 e0 e1 e2 o1 o2 d0 d1 d2 q1 q2 a8 o a9 hm d;go_upto_region 37 with fail;go_cut [180] from 163 to 180 (fun s wx=>(∃bb,s=.bool bb)/\wr=wx)
       case first=>
        go_wp2_with fail
        refine (U.out wr (zc.refl _)).mono ?_;rintro e w' ⟨rfl,rfl⟩
        cases b1 with
        | true=>
         go_wp2_with fail
         go_meet;exact ⟨⟨_,rfl⟩,rfl⟩
        | false=>
         go_wp2_with fail
         refine (V.out wr (zc.refl _)).mono ?_;rintro e w' ⟨rfl,rfl⟩
         go_wp2_with fail
         go_meet;exact ⟨⟨_,rfl⟩,rfl⟩
       case rest=>
        obtain ⟨⟨bb,rfl⟩,rfl⟩:=hcut
        cases bb with
        | true=>
         clear G e5 a4 a5 c9 d4 d5 T1 T2 b7 d9
         go_wp2_with fail
         have a1:Hid (∀x,MS B ((wr.drew).setCell ⟨gb,k,none⟩ (.bool x)) ((wr.drew).setCell ⟨gb,k,none⟩ (.bool x)).heap.size gm gd W H L n t t (.slice (some ⟨gF,0,none⟩) t cF) (.slice none 0 0) (.slice (some ⟨gT,0,none⟩) t cT) fs ts/\zc w1 ((wr.drew).setCell ⟨gb,k,none⟩ (.bool x))):=fun x=>hA.out.1.stored (k:=k) hA.out.2 HB.out a0.out b5 x
         obtain ⟨csT,K⟩:=own_blkB hA.out.1.T;obtain ⟨csF,a7⟩:=own_blkB hA.out.1.F;obtain ⟨csB,a6⟩:=a0.out;have r5:=SB.rule hA.out.1.mz (by decide) m5;have r3:=SB.rule hA.out.1.mz (by decide) m3;have ra1:=SB.rule K (by decide) A1;have ra2:=SB.rule K (by decide) A2;have rf1:=SB.rule a7 (by decide) F1;have c6:Hid (∀W x,SB wr W->SB wr (W.setCell ⟨gb,k,none⟩ x)):=fun W x h=>h.set a6 x
         clear U V m5 m3 A1 A2 F1 K a7 a6;refine r38_wp (n:=n) c7 e4 d8 e3 b6 r5 r3 ra1 ra2 rf1 I b0 b8 b9 c6 (fun c a a' W he h=>hP c a a' W he h) fun b' x181 x182 x183 x184 x185 x186 x187 x188 x189 x190 x191 x192 x193 x194 x195 x196 x197 x198 x199 x200 x201 x202 x203 x204 x205=>?_;have c0:=zh (a1.out b');clear I b0 a1 r5 r3 ra1 ra2 rf1
         go_wp2_with fail
         go_roundg (n - (k+1))
         case measure=>omega
         case rel=>exact ⟨k+1,by go_num,O,rfl,c0.out⟩
        | false=>
         go_wp2_with fail
         go_roundg (n - (k+1))
         case measure=>omega
         case rel=>exact ⟨k+1,by go_num,O,rfl,hA.out⟩
      ·have e7:decide (k<n)=false\/(decide (k<n)=true/\b=a):=by
        by_cases h1:k<n
        ·exact .inr ⟨DF h1,by by_cases h2:b=a;exact h2;exact absurd ⟨h1,h2⟩ M⟩
        ·exact .inl (DG h1)
       clear M;rcases e7 with G | ⟨G,d⟩
       ·have e6:¬ k<n:=of_decide_eq_false G
        go_wp2_with fail
        go_roundg (t - (b+1))
        case measure=>omega
        case rel=>exact ⟨b+1,by go_num,D,rfl,hA.out⟩
       ·subst d;have e6:k<n:=EE G;have a4:((b:Int)==(b:Int))=true:=by simp
        have a5:((b:Int) != (b:Int))=false:=by simp
        go_wp2_with fail
        go_roundg (t - (b+1))
        case measure=>omega
        case rel=>exact ⟨b+1,by go_num,D,rfl,hA.out⟩
    ·have d7:b=t:=by omega
     subst d7;have d6:decide (b<b)=false:=DG (by omega);clear hbge
     go_wp2_with fail
     go_roundg (b - (a+1))
     case measure=>omega
     case rel=>exact ⟨a+1,by go_num,r,rfl,hA.out⟩
  ·have c8:a=t:=by omega
   subst c8;have d6:decide (a<a)=false:=DG (by omega);clear hage
   go_wp2_with fail
   exact J.out wA hA _ _ _ _ _ _ _ _ _ _ _ _ _ _ _ _ _ _ _ _ _ _ _ _ _ _ _ _ _ _ _ _ _ _ _ _ _ _ _ _ _ _ _ _ _ _ _ _ _ _ _ _ _ _ _ _ _ _ _ _ _ _ _ _ _
theorem made_calls {ok:Nat->Prop} {v:Value} {ls:List (List Int)} (w:World) (hl:Ai w ok v ls) (D7:ls.length<=9223372036854775807) (q7:∀l∈ls,l.length<=9223372036854775807):
  Calls Tryz.prog 28 #[v] w (AD w):=by
 have q5:=hl.bound;have D0:=zh q5;obtain ⟨vs,⟨A,c,rfl,hc,hr⟩,he⟩:=q5;have HR:=zh hr;have HE:=zh he;clear hl hr he;have j9:=zh q7;clear q7;obtain ⟨iI,ji,jz0,jz1,jz2⟩:=info_parts Tryz.infoInt;have JF:=zh ji;have JZ0:=zh jz0;have JZ1:=zh jz1;have JZ2:=zh jz2;clear ji jz0 jz1 jz2;obtain ⟨iB,bi,bz0,bz1,bz2⟩:=info_parts Tryz.infoBool;have BF:=zh bi;have BZ0:=zh bz0;have BZ1:=zh bz1;have BZ2:=zh bz2;clear bi bz0 bz1 bz2;obtain ⟨iT,ti,tz0,tz1,tz2⟩:=info_parts Tryz.infoTask;have TF:=zh ti;have TZ0:=zh tz0;have TZ1:=zh tz1;have TZ2:=zh tz2;clear ti tz0 tz1 tz2;obtain ⟨iL,li,lz0,lz1,lz2⟩:=info_parts Tryz.infoBools;have LF:=zh li;have LZ0:=zh lz0;have LZ1:=zh lz1;have LZ2:=zh lz2;clear li lz0 lz1 lz2
 go_enter Tryz.func28,Tryz.ntmps28
 go_upto_region 1 with fail;generalize h6:w.alloc (.cells #[.int .i64 0,.int .i64 0,.int .i64 0,.slice none 0 0,.slice none 0 0,.slice none 0 0] 35)=w1;have l0:zc w w1:=by rw [<-h6];exact (zc.refl w).alloc _
 have c6:Hid (zj w1 w.heap.size 35 #[.int .i64 0,.int .i64 0,.int .i64 0,.slice none 0 0,.slice none 0 0,.slice none 0 0]/\w1.heap.size=w.heap.size+1):=by rw [<-h6];exact ⟨zj.new _ _ _ rfl,by simp⟩
 clear h6;have a8:=zh l0;obtain ⟨B,hB⟩:=EH w1.heap.size;obtain ⟨gd,c9⟩:=EH w1.heap.size;have HB:=zh hB;have d9:=zh c9;have n3:zP B (w1.alloc (.cells #[.slice none 0 0,.int .i64 0] 109)) gd:=⟨by omega,_,0,[],zj.new _ _ _ c9,zn.nil _ _,by simp,by simp⟩;have s7:=zh n3;clear n3 l0
 go_upto_if 20 with fail
 rw [<-c9];go_cut [] (fun wx=>Hid (zc w1 wx/\zP B wx gd))
 case first=>
  by_cases r:ls.length=0
  ·have g8:decide ((0:Int)<(ls.length:Int))=false:=by rw [r];rfl
   have d4:decide (0<ls.length)=false:=by rw [r];rfl
   have f3:¬ (0<ls.length):=by omega
   have HZ:=zh r;clear r
   go_wp2_with fail
   go_meet;exact ⟨(zc.refl _).alloc _,s7.out⟩
  ·have hp:0<ls.length:=by omega
   have g8:decide ((0:Int)<(ls.length:Int))=true:=DF (by omega);have d4:decide (0<ls.length)=true:=DF hp;obtain ⟨b0,o0,u0,rfl,r4,a6,d7⟩:=BG HR.out HE.out hp hp;have HU:=zh d7;obtain ⟨A0,c0,rfl,n1,-⟩:=d7;rw [Nat.add_zero] at a6;have q0:=zc.rule a6;have f1:zc w (w1.alloc (.cells #[.slice none 0 0,.int .i64 0] 109)):=a8.out.alloc _;clear r a6
   go_wp2_with fail
   go_meet;have h1:=f1;refine ⟨(zc.refl _).alloc _,by omega,_,0,ls[0],zj.new _ _ _ c9,?_,j9.out _ (DD hp),DR _⟩;exact (zn.below HU.out (a8.out.alloc _)).weaken fun b hb=>by have:=hb.2;have:=c6.out.2;omega
 case rest=>
  have g3:B<=w1.heap.size:=by omega
  clear hB c9;obtain ⟨h8,n4⟩:=hcut.out;have s8:=zh n4;clear hcut n4
  go_wp2_with fail
  refine (zK 3 s8.out (by omega) (by omega)).mono ?_;rintro e w3 ⟨x,rfl,D8,D9,n5,p3⟩;have i0:zc w1 w3:=Below.grown h8 p3 h8.size (fun k Q=>by injection Q with Q;have:=d9.out;omega);have s9:=zh n5;clear n5 p3 h8
  go_wp2_with fail
  refine (zK 4 s9.out (by omega) (by omega)).mono ?_;rintro e w4 ⟨y,rfl,E0,E1,n6,p4⟩;have i1:zc w1 w4:=Below.grown i0 p4 i0.size (fun k Q=>by injection Q with Q;have:=d9.out;omega);have t3:=zh n6;clear n6 p4 i0
  go_wp2_with fail
  refine (zK 2 t3.out (by omega) (by omega)).mono ?_;rintro e w5 ⟨z,rfl,E3,E4,n7,p5⟩;have a7:zc w1 w5:=Below.grown i1 p5 i1.size (fun k Q=>by injection Q with Q;have:=d9.out;omega);have t4:=zh n7;clear n7 p5 i1;have k3:Hid (zj (w5.alloc (.cells #[.int .i64 (2+x),.int .i64 (1+y),.int .i64 (1+z),.slice none 0 0,.slice none 0 0,.slice none 0 0] 35)) w5.heap.size 35 #[.int .i64 (2+x),.int .i64 (1+y),.int .i64 (1+z),.slice none 0 0,.slice none 0 0,.slice none 0 0]):=zj.new _ _ _ rfl;obtain ⟨gm,e7⟩:=EH w5.heap.size;rw [<-e7] at k3;have g0:=zh e7;have t6:=zh a7
  go_upto_if 39 with fail
  rw [<-e7];clear e7;go_cut [] (fun wx=>Hid (zc w1 wx/\zP B wx gd/\∃W H L:Int,(2<=W/\W<=4)/\(1<=H/\H<=4)/\(L=1\/(L=2/\W<=3/\H<=2))/\zj wx gm 35 #[.int .i64 W,.int .i64 H,.int .i64 L,.slice none 0 0,.slice none 0 0,.slice none 0 0]))
  case first=>
   have a4:=k3.out;generalize h7:w5.alloc (.cells #[.int .i64 (2+x),.int .i64 (1+y),.int .i64 (1+z),.slice none 0 0,.slice none 0 0,.slice none 0 0] 35)=w6 at*;have i2:zc w1 w6:=by rw [<-h7];exact a7.alloc _
   have i8:Hid (zP B w6 gd):=by rw [<-h7];exact t4.out.ext ((zc.refl _).alloc _) (DE g3 a7.size)
   clear h7;have m0:w6.cell? ⟨gm,0,none⟩=some (.int .i64 (2+x)):=a4.cell (k:=0) rfl;have m1:w6.cell? ⟨gm,1,none⟩=some (.int .i64 (1+y)):=a4.cell (k:=1) rfl;have m2:w6.cell? ⟨gm,2,none⟩=some (.int .i64 (1+z)):=a4.cell (k:=2) rfl;have hf:=fun k=>a4.frozen k
   have f6:=zh a4;clear a4;by_cases d8:z=1
   ·have ht:((1+z:Int)==2)=true:=by rw [beq_iff_eq];omega
    have A8:decide (1+z=2)=true:=DF (by omega);have h4:(z==1)=true:=by rw [beq_iff_eq];exact d8
    have x4:=zh d8;clear d8
    go_wp2_with fail
    go_meet;have e6:B<=gm:=by have:=g0.out;have:=a7.size;omega
    have p8:w1.heap.size<=gm:=by have:=g0.out;have:=a7.size;omega
    have o8:=i8.out;refine ⟨(i2.setCell (p:=⟨gm,0,none⟩) p8 _).setCell (p:=⟨gm,1,none⟩) p8 _,?_,min (2+x) 3,min (1+y) 2,1+z,by omega,by omega,.inr ⟨by have:=x4.out;omega,by omega,by omega⟩,?_⟩
    ·obtain ⟨cs,hb⟩:=o8.blk;have r3:gd≠gm:=zj.ne_ hb (f6.out) (by decide);exact o8.keep (((Below.refl B w6).setCell (p:=⟨gm,0,none⟩) e6 _).setCell (p:=⟨gm,1,none⟩) e6 _) ((DL _ ⟨gm,1,none⟩ _ gd r3).trans (DL _ ⟨gm,0,none⟩ _ gd r3))
    ·exact ((f6.out).set (k:=0) _).set (k:=1) _
   ·have ht:((1+z:Int)==2)=false:=by rw [DP];omega
    have A8:decide (1+z=2)=false:=DG (by omega);have h4:(z==1)=false:=by rw [DP];exact d8
    have s3:Hid (1+z=1):=by show _=_;omega
    clear d8
    go_wp2_with fail
    go_meet;exact ⟨i2,i8.out,2+x,1+y,1+z,by omega,by omega,.inl s3.out,f6.out⟩
  case rest=>
   obtain ⟨i3,n8,W,H,L,hW,hH,hL,K⟩:=hcut.out;clear hcut;have o6:=dims hW hH hL;have k6:Hid ((2<=W/\W<=4)/\(1<=H/\H<=4)/\(L=1\/(L=2/\W<=3/\H<=2))):=⟨hW,hH,hL⟩;have m0:wc.cell? ⟨gm,0,none⟩=some (.int .i64 W):=K.cell (k:=0) rfl;have m1:wc.cell? ⟨gm,1,none⟩=some (.int .i64 H):=K.cell (k:=1) rfl;have m2:wc.cell? ⟨gm,2,none⟩=some (.int .i64 L):=K.cell (k:=2) rfl;have m3:wc.cell? ⟨gm,3,none⟩=some (.slice none 0 0):=K.cell (k:=3) rfl;have m4:wc.cell? ⟨gm,4,none⟩=some (.slice none 0 0):=K.cell (k:=4) rfl;have m5:wc.cell? ⟨gm,5,none⟩=some (.slice none 0 0):=K.cell (k:=5) rfl;have v4:=zh K;have t5:=zh n8;clear K n8 hW hH hL a7
   go_wp2_with fail
   refine (qnodes_calls W H L _ _ _ _ (by omega) (by omega)).mono ?_;rintro e w8 ⟨rfl,n0⟩;have a3:zc wc w8:=n0;have f2:zc w1 w8:=i3.trans a3;have i9:Hid (zP B w8 gd):=t5.out.ext a3 (DE g3 i3.size);have v5:Hid (zj w8 gm 35 #[.int .i64 W,.int .i64 H,.int .i64 L,.slice none 0 0,.slice none 0 0,.slice none 0 0]):=v4.out.ext a3;obtain ⟨n,hn⟩:∃n:Nat,(n:Int)=W*H*L:=⟨(W*H*L).toNat,by omega⟩;rw [<-hn];have HN:=zh hn;have e8:2<=n/\n<=16:=by omega
   clear hn o6 m0 m1 m2 m3 m4 m5 n0 a3 i3
   go_wp2_with fail
   refine (zK 3 i9.out (by omega) (by omega)).mono ?_;rintro e w9 ⟨z9,rfl,s4,s5,n9,g4⟩;obtain ⟨many,d6⟩:∃many:Nat,(many:Int)=1+z9:=⟨(1+z9).toNat,by omega⟩;have q8:1<=many/\many<=3:=by omega
   have H9:Hid (MS B w9 w9.heap.size gm gd W H L n 0 0 (.slice none 0 0) (.slice none 0 0) (.slice none 0 0) [] []):=by
    have e6:B<=gm:=by have:=g0.out;have:=t6.out.size;omega
    have h0:MS B w8 w8.heap.size gm gd W H L n 0 0 (.slice none 0 0) (.slice none 0 0) (.slice none 0 0) [] []:=⟨DE g3 f2.size,DC _,v5.out,e6,i9.out,World.ownsRow_nil _ _ _ _,World.ownsRow_nil _ _ _ _,fun j hj=>by omega,fun j hj=>by omega⟩;have h1:=h0.drawn n9 g4;exact h1.ext (zc.refl _)
   have s2:zc w1 w9:=Below.grown f2 g4 f2.size (fun k Q=>by injection Q with Q;have:=d9.out;omega);have k7:=zh s2;clear n9 g4 s2 f2
   go_wp2_with fail
   rw [<-d6];clear d6 s4 s5
   go_loopg [7] many (fun gk v wr=>∃(t:Nat) (vF vT:Value) (fs ts:List Value),v=.int .i64 t/\t<=many/\gk=many - t/\Hid (MS B wr wr.heap.size gm gd W H L n t t vF (.slice none 0 0) vT fs ts/\zc w1 wr))
   case atStart=>exact ⟨0,_,_,[],[],rfl,DR _,rfl,H9.out,k7.out⟩
   clear H9 k7
   case round=>
    obtain ⟨t,vF,vT,fs,ts,rfl,ht,rfl,D⟩:=hrel;obtain ⟨wR,rfl⟩:∃wR:World,wR=wr:=⟨_,rfl⟩;rcases DZ t many with g9 | hge
    ·skip
     have h3:B<=wR.heap.size:=D.out.1.hB;obtain ⟨ge,hge⟩:=EH wR.heap.size;have b5:=zh hge;have j1:Hid (zP B (wR.alloc (.cells #[.slice none 0 0,.int .i64 0] 109)) ge):=⟨by omega,_,0,[],zj.new _ _ _ hge,zn.nil _ _,by simp,by simp⟩;have f7:Hid (zj (wR.alloc (.cells #[.slice none 0 0,.int .i64 0] 109)) ge 109 #[.slice none 0 0,.int .i64 0]):=zj.new _ _ _ hge;have f8:Hid (zc wR (wR.alloc (.cells #[.slice none 0 0,.int .i64 0] 109))):=(zc.refl _).alloc _
     go_upto_if 64 with fail
     rw [<-hge];clear hge;generalize wR.alloc _=wa at*;go_cut [] (fun wx=>Hid (zc wR wx/\zP B wx ge))
     case first=>
      by_cases r:t+1<ls.length
      ·have g8:decide ((t:Int)+1<(ls.length:Int))=true:=DF (by omega);have d4:decide (t+1<ls.length)=true:=DF r;have f3:(t:Int)+1<(ls.length:Int):=by omega
       obtain ⟨b0,o0,u0,rfl,r4,a6,d7⟩:=BG HR.out HE.out r r;have HU:=zh d7;obtain ⟨A0,c0,rfl,n1,-⟩:=d7;have q0:=zc.rule a6;have s1:zc w wR:=a8.out.trans D.out.2;have f1:zc w wa:=s1.trans f8.out;have x3:=zh f1;have D2:wa.cell? ⟨ge,0,none⟩=some (.slice none 0 0):=f7.out.cell (k:=0) rfl;have D4:wa.frozen? ⟨ge,0,none⟩=false:=f7.out.frozen 0;clear a6 s1
       go_wp2_with fail
       go_meet;have z7:wR.heap.size<=ge:=by have:=b5.out;omega
       have z8:w.heap.size<=ge:=by have:=b5.out;have:=(Below.size (a8.out.trans D.out.2));omega
       refine ⟨f8.out.setCell (p:=⟨ge,0,none⟩) z7 _,by have:=b5.out;omega,_,0,ls[t+1],f7.out.set (k:=0) _,?_,j9.out _ (DD r),DR _⟩;exact (zn.keep HU.out (zW.of_below (x3.out.setCell (p:=⟨ge,0,none⟩) z8 _))).weaken fun b hb=>by have:=hb.2;have:=c6.out.2;have:=HB.out;omega
      ·have g8:decide ((t:Int)+1<(ls.length:Int))=false:=DG (by omega);have d4:decide (t+1<ls.length)=false:=DG r;have f3:¬ (t:Int)+1<(ls.length:Int):=by omega
       have HZ:=zh r;clear r
       go_wp2_with fail
       go_meet;exact ⟨f8.out,j1.out⟩
     case rest=>
      obtain ⟨i4,o5⟩:=hcut.out;have g1:=zh i4;have j0:=zh o5;clear hcut o5 j1;obtain ⟨w6,rfl⟩:∃w6:World,w6=wc:=⟨_,rfl⟩;have x5:B<=w6.heap.size:=DE h3 i4.size;have A3:ge<w6.heap.size:=j0.out.lt;have h4:t<3:=by omega
      have r5:(t:Int)<3:=by omega
      have r6:(0:Int)<=(t:Int):=by omega
      clear i4
      go_wp2_with fail
      refine r16_wp j0 x5 A3 h4 r5 r6 e8 ?hQ16
      case hQ16=>
       intro v W hJ _;obtain ⟨s,g7,g11,gt,x1,x2,B0,B1,r9,f4,m6⟩:=hJ.fin h3 g1.out.size (by have:=b5.out;omega);have l3:zc wR W:=Below.grown g1.out hJ.gb g1.out.size (fun k Q=>by injection Q with Q;have:=b5.out;omega);have e1:=zh m6;have j6:=zh l3;clear hJ m6 l3 B0 B1 r9;rw [f4];clear f4
       go_wp2_with fail
       refine (zK 3 e1.out.dr (by omega) (by omega)).mono ?_;rintro e wb ⟨z,rfl,s3,E2,o3,g5⟩;have b7:=zh (e1.out.drawn o3 g5);have b4:=zh (e1.out.drawnExt j6.out g5);clear o3 g5 e1 j6
       go_upto_if 88 with fail
       go_cut [] (fun wx=>∃(u1:Value) (l1:List Int),Hid (R1 B wx wR.heap.size ge gt n s u1 (.slice (some ⟨g11,0,none⟩) 1 1) l1 [x2]/\zc wR wx/\l1.length<=2))
       case first=>
        by_cases r:z=0
        ·have i5:(z==0)=true:=by rw [beq_iff_eq];exact r
         have HZ:=zh r;clear r
         go_wp2_with fail
         refine r18_wp b7 b4 e8 (fun c a a' W he h=>(show a'.defers=[]/\AD w (.panicked c) W from ⟨he ▸ (show a.defers=[]/\AD w (.panicked c) W from h).1,(show a.defers=[]/\AD w (.panicked c) W from h).2⟩)) fun u1 l1 W h9 x89 x90 x91 x92 x93 x94 x95 x96=>?_
         go_wp2_with fail
         go_meet;exact ⟨_,_,h9⟩
        ·have i5:(z==0)=false:=by rw [DP];exact r
         have HZ:=zh r;clear r
         go_wp2_with fail
         go_meet;exact ⟨_,[x1],b7.out,b4.out,by simp⟩
       case rest=>
        obtain ⟨u1,l1,e9⟩:=hcut;have e2:=zh e9.out.1;have j3:=zh e9.out.2.1;have j7:=zh e9.out.2.2;clear e9
        go_wp2_with fail
        refine (zK 3 e2.out.dr (by omega) (by omega)).mono ?_;rintro e wq ⟨zz,rfl,C7,C8,o7,g6⟩;have b8:=zh (e2.out.drawn o7 g6);have a9:=zh (e2.out.drawnExt j3.out g6);clear o7 g6 e2 j3 b7 b4
        go_upto_if 99 with fail
        go_cut [] (fun wx=>∃(u2:Value) (l2:List Int),Hid (R1 B wx wR.heap.size ge gt n s u1 u2 l1 l2/\zc wR wx/\l2.length<=2))
        case first=>
         by_cases r:zz=0
         ·have i5:(zz==0)=true:=by rw [beq_iff_eq];exact r
          have HZ:=zh r;clear r
          go_wp2_with fail
          refine r20_wp b8 a9 e8 (fun c a a' W he h=>(show a'.defers=[]/\AD w (.panicked c) W from ⟨he ▸ (show a.defers=[]/\AD w (.panicked c) W from h).1,(show a.defers=[]/\AD w (.panicked c) W from h).2⟩)) fun u2 l2 W h9 x100 x101 x102 x103 x104 x105 x106 x107=>?_
          go_wp2_with fail
          go_meet;exact ⟨_,_,h9⟩
         ·have i5:(zz==0)=false:=by rw [DP];exact r
          have HZ:=zh r;clear r
          go_wp2_with fail
          go_meet;exact ⟨_,[x2],b8.out,a9.out,by simp⟩
        case rest=>
         obtain ⟨u2,l2,f0⟩:=hcut;have v9:=zh f0.out.1;have j5:=zh f0.out.2.1;have j8:=zh f0.out.2.2;obtain ⟨w7,rfl⟩:∃w7:World,w7=wc:=⟨_,rfl⟩;have i7:Hid (OwnB w7 w7.heap.size (.slice none 0 0) []):=World.ownsRow_nil _ _ _ _;clear f0 b8 a9
         go_wp2_with fail
         go_loopg [10,11] n (fun gk vf v wr=>∃(k:Nat) (lf:List Bool),v=.int .i64 k/\k<=n/\gk=n - k/\lf.length=k/\Hid (R1 B wr wR.heap.size ge gt n s u1 u2 l1 l2/\zc wR wr/\OwnB wr w7.heap.size vf lf/\w7.heap.size<=wr.heap.size))
         case atStart=>exact ⟨0,[],rfl,DR _,rfl,rfl,v9.out,j5.out,i7.out,DC _⟩
         clear i7
         case round=>
          obtain ⟨k,lf,rfl,Q,rfl,q6,hQ⟩:=hrel;have e3:=zh j5.out.size;have e0:=zh q6;have A4:lf.length<=16:=by omega
          clear q6;rcases DZ k n with d5 | hge2
          ·skip
           go_wp2_with fail
           refine (zK 6 hQ.out.1.dr (by omega) (by omega)).mono ?_;rintro e wd ⟨x,rfl,f1,i2,o4,O⟩;have a1:=zh (hQ.out.1.drawn o4 O);have f9:=zh (hQ.out.1.drawnExt hQ.out.2.1 O)
           have a0:Hid (OwnB wd w7.heap.size u10 lf):=zy hQ.out.2.2.1 fun g E=>O.block g (World.ownsRow.lt hQ.out.2.2.1 g E).2 (fun e=>by
            obtain ⟨cs,hb⟩:=hQ.out.1.dr.blk;injection e with e;subst e;exact zg hQ.out.2.2.1 hb (by decide) E)
           have A6:w7.heap.size<=wd.heap.size:=DE hQ.out.2.2.2 O.size;clear o4 O;obtain ⟨Af,cf,rfl,D3,-⟩:=a0.out.bools;have D6:(0:Int)<=(k:Int):=by omega
           have B8:wd.cell? ⟨gt,1,none⟩=some u1:=a1.out.tk.cell (k:=1) rfl;have B9:wd.cell? ⟨gt,2,none⟩=some u2:=a1.out.tk.cell (k:=2) rfl;by_cases hx:0<x
           ·have B2:decide (0<x)=true:=DF hx
            go_wp2_with (at_builtin;refine wpList_append_own_at _ rfl _ _ 32 rfl w7.heap.size 4 iB (.bool false) 1 1 Tryz.underlying32 BF.out BZ0.out BZ1.out BZ2.out rfl (by decide) (.slice Af lf.length cf) lf.length _ rfl (World.ownsRow.alloc a0.out _) ⟨wd.heap.size,0,none⟩ 1 1 [.bool true] rfl rfl (cell_one_new _ _ _) (by simp [Value.oneCell']) (by unfold maxLen;omega) (by omega) (by simp;omega) ?_)
            intro v' w9 d E _ J;obtain ⟨U,M⟩:=a1.out.grownB a0.out e3.out E;have b9:=zh U;have b3:Hid (zc wR w9):=Below.trans f9.out M;have c7:Hid (w7.heap.size<=w9.heap.size):=by have:=E.size;simp at this;show _<=_;omega
            have b6:Hid (OwnB w9 w7.heap.size v' (lf++[true])):=OwnB.app d;clear U M d E J
            go_wp2_with fail
            go_roundg (n - (k+1))
            case measure=>omega
            case rel=>exact ⟨k+1,lf++[true],by go_num,d5,rfl,by have:=e0.out;simp;omega,b9.out,b3.out,b6.out,c7.out⟩
           ·have B2:decide (0<x)=false:=DG hx
            go_wp2_with fail
            refine (has_calls (k:Int) wd (An.of_own a1.out.o1) (by have:=j7.out;omega)).mono ?_;rintro e w' ⟨rfl,rfl⟩;generalize decide ((k:Int)∈l1)=b1
            cases b1 with
            | true=>
             go_wp2_with (at_builtin;refine wpList_append_own_at _ rfl _ _ 32 rfl w7.heap.size 4 iB (.bool false) 1 1 Tryz.underlying32 BF.out BZ0.out BZ1.out BZ2.out rfl (by decide) (.slice Af lf.length cf) lf.length _ rfl (World.ownsRow.alloc a0.out _) ⟨wd.heap.size,0,none⟩ 1 1 [.bool true] rfl rfl (cell_one_new _ _ _) (by simp [Value.oneCell']) (by unfold maxLen;omega) (by omega) (by simp;omega) ?_)
             intro v' w9 d E _ J;obtain ⟨U,M⟩:=a1.out.grownB a0.out e3.out E;have b9:=zh U;have b3:Hid (zc wR w9):=Below.trans f9.out M;have c7:Hid (w7.heap.size<=w9.heap.size):=by have:=E.size;simp at this;show _<=_;omega
             have b6:Hid (OwnB w9 w7.heap.size v' (lf++[true])):=OwnB.app d;clear U M d E J
             go_wp2_with fail
             go_roundg (n - (k+1))
             case measure=>omega
             case rel=>exact ⟨k+1,lf++[true],by go_num,d5,rfl,by have:=e0.out;simp;omega,b9.out,b3.out,b6.out,c7.out⟩
            | false=>
             go_wp2_with fail
             refine (has_calls (k:Int) wd (An.of_own a1.out.o2) (by have:=j8.out;omega)).mono ?_;rintro e w' ⟨rfl,rfl⟩;generalize decide ((k:Int)∈l2)=b2
             go_wp2_with (at_builtin;refine wpList_append_own_at _ rfl _ _ 32 rfl w7.heap.size 4 iB (.bool false) 1 1 Tryz.underlying32 BF.out BZ0.out BZ1.out BZ2.out rfl (by decide) (.slice Af lf.length cf) lf.length _ rfl (World.ownsRow.alloc a0.out _) ⟨wd.heap.size,0,none⟩ 1 1 [.bool b2] rfl rfl (cell_one_new _ _ _) (by simp [Value.oneCell']) (by unfold maxLen;omega) (by omega) (by simp;omega) ?_)
             intro v' w9 d E _ J;obtain ⟨U,M⟩:=a1.out.grownB a0.out e3.out E;have b9:=zh U;have b3:Hid (zc wR w9):=Below.trans f9.out M;have c7:Hid (w7.heap.size<=w9.heap.size):=by have:=E.size;simp at this;show _<=_;omega
             have b6:Hid (OwnB w9 w7.heap.size v' (lf++[b2])):=OwnB.app d;clear U M d E J
             go_wp2_with fail
             go_roundg (n - (k+1))
             case measure=>omega
             case rel=>exact ⟨k+1,lf++[b2],by go_num,d5,rfl,by have:=e0.out;simp;omega,b9.out,b3.out,b6.out,c7.out⟩
          ·skip
           have q4:k=n:=by omega
           have t8:=zh q4;have C0:decide (k<n)=false:=DG (by omega);have C1:decide ((k:Int)<(n:Int))=false:=DG (by omega);have C2:¬ k<n:=by omega
           clear q4 hge2;have e4:=D.out.1.ext hQ.out.2.1;have m5:wr.cell? ⟨gm,5,none⟩=some vT:=e4.mz.cell (k:=5) rfl;have hf:=fun j=>e4.mz.frozen j
           have c8:∀j,wr.frozen? ⟨gm,j,none⟩=false:=hf;obtain ⟨A1,c1,rfl,-⟩:=AC hQ.out.1.o1;obtain ⟨A2,c2,rfl,-⟩:=AC hQ.out.1.o2;have t0:wr.cell? ⟨gt,0,none⟩=some (.string s):=hQ.out.1.tk.cell (k:=0) rfl;have t1:wr.cell? ⟨gt,1,none⟩=some (.slice A1 l1.length c1):=hQ.out.1.tk.cell (k:=1) rfl;have t2:wr.cell? ⟨gt,2,none⟩=some (.slice A2 l2.length c2):=hQ.out.1.tk.cell (k:=2) rfl;have V:=zh e4;clear e4 hf
           go_wp2_with (at_builtin;refine wpList_append_own_at _ rfl _ _ 33 rfl B 101 iT (.agg #[.string ⟨#[]⟩,.slice none 0 0,.slice none 0 0]) 3 64 Tryz.underlying33 TF.out TZ0.out TZ1.out TZ2.out rfl (by decide) vT t _ rfl (V.out.T.alloc _) ⟨wr.heap.size,0,none⟩ 1 1 [.string s,.slice A1 l1.length c1,.slice A2 l2.length c2] rfl rfl (cells3n _ _ _ _ _) (by simp [Value.oneCell']) (by unfold maxLen;omega) (by omega) (by have:=V.out.hB;simp;omega) ?_)
           intro v' w9 d E _ J;obtain ⟨gv,cv,rfl,-,-⟩:=World.ownsRow.form d (by omega);obtain ⟨l4,l9,m8⟩:=V.out.end1 hQ.out.1 j7.out j8.out hQ.out.2.2.1 d E;have o:w9.heap[gm]?=wr.heap[gm]?:=(E.block gm (by have:=zb V.out.mz;simp;omega) (fun e=>zg V.out.T V.out.mz (by decide) e.symm)).trans (DV _ _ _ (zb V.out.mz));have n2:w9.cell? ⟨gm,5,none⟩=some vT:=(DS (a:=⟨gm,5,none⟩) o).trans m5;have o9:w9.frozen? ⟨gm,5,none⟩=false:=(Eb (a:=⟨gm,5,none⟩) o).trans (c8 5);have G:=zh l4;have k4:=zh l9;have j2:Hid (zc w1 (w9.setCell ⟨gm,5,none⟩ (.slice (some ⟨gv,0,none⟩) (t+1) cv))):=Below.trans (zc.trans D.out.2 hQ.out.2.1) (HB.out ▸ m8);clear l4 l9 m8 d E J o m5 c8 t0 t1 t2;go_upto_region 27 with fail;clear n2 o9;generalize w9.setCell ⟨gm,5,none⟩ (.slice (some ⟨gv,0,none⟩) (t+1) cv)=wv at*;obtain ⟨Af,cf,rfl,-,-⟩:=k4.out.bools;have m3:wv.cell? ⟨gm,3,none⟩=some vF:=G.out.mz.cell (k:=3) rfl;have c8:∀j,wv.frozen? ⟨gm,j,none⟩=false:=fun j=>G.out.mz.frozen j
           have t9:Hid (∀g,(Value.slice Af lf.length cf).ownBlock=some g->g<wr.heap.size):=fun g E=>(World.ownsRow.lt hQ.out.2.2.1 g E).2
           go_wp2_with (at_builtin;refine wpList_append_own_at _ rfl _ _ 31 rfl B 32 iL (.slice none 0 0) 1 24 Tryz.underlying31 LF.out LZ0.out LZ1.out LZ2.out rfl (by decide) vF t _ rfl (G.out.F.alloc _) ⟨wv.heap.size,0,none⟩ 1 1 [.slice Af lf.length cf] rfl rfl (cell_one_new _ _ _) (by simp [Value.oneCell']) (by unfold maxLen;omega) (by omega) (by have:=G.out.hB;simp;omega) ?_)
           intro v2 w9 d E _ J;obtain ⟨gv2,cv2,rfl,-,-⟩:=World.ownsRow.form d (by omega);obtain ⟨l5,m9⟩:=G.out.end2 k4.out (e0.out.trans t8.out) (DE h3 e3.out) t9.out d E;have o:w9.heap[gm]?=wv.heap[gm]?:=(E.block gm (by have:=zb G.out.mz;simp;omega) (fun e=>zg G.out.F G.out.mz (by decide) e.symm)).trans (DV _ _ _ (zb G.out.mz));have n2:w9.cell? ⟨gm,3,none⟩=some vF:=(DS (a:=⟨gm,3,none⟩) o).trans m3;have o9:w9.frozen? ⟨gm,3,none⟩=false:=(Eb (a:=⟨gm,3,none⟩) o).trans (c8 3);have v3:=zh l5;have j4:Hid (zc w1 (w9.setCell ⟨gm,3,none⟩ (.slice (some ⟨gv2,0,none⟩) (t+1) cv2))):=Below.trans j2.out (HB.out ▸ m9);clear l5 m9 d E J o m3 c8
           go_wp2_with fail
           go_roundg (many - (t+1))
           case measure=>omega
           case rel=>exact ⟨t+1,_,_,_,_,by go_num,g9,rfl,v3.out,j4.out⟩
    ·skip
     have A9:t=many:=by omega
     subst A9;have C5:decide (t<t)=false:=DG (by omega);have k9:0<t:=by omega
     obtain ⟨gT,cT,rfl,p7,-⟩:=World.ownsRow.form D.out.1.T k9;obtain ⟨gF,cF,rfl,p6,-⟩:=World.ownsRow.form D.out.1.F k9;have HcT:=zh (AN D.out.1.T);have HcF:=zh (AN D.out.1.F);clear hge;have l6:=zh (D.out.1);have m7:=zh (D.out.2);clear D
     go_wp2_with fail
     have l8:Hid (MS B wR wR.heap.size gm gd W H L n t t (.slice (some ⟨gF,0,none⟩) t cF) (.slice none 0 0) (.slice (some ⟨gT,0,none⟩) t cT) fs ts/\zc w1 wR):=⟨l6.out,m7.out⟩;clear l6 m7;refine loop12_wp HB p7 p6 HcT HcF e8 q8 l8 (fun c a a' W he h=>(show a'.defers=[]/\AD w (.panicked c) W from ⟨he ▸ (show a.defers=[]/\AD w (.panicked c) W from h).1,(show a.defers=[]/\AD w (.panicked c) W from h).2⟩)) fun wA hA x13 x14 x143 x144 x145 x146 x147 x148 x149 x150 x151 x152 x153 x154 x155 x156 x157 x158 x159 x160 x161 x162 x163 x164 x165 x166 x167 x168 x169 x170 x171 x172 x173 x174 x175 x176 x177 x178 x179 x180 x181 x182 x183 x184 x185 x186 x187 x188 x189 x190 x191 x192 x193 x194 x195 x196 x197 x198 x199 x200 x201 x202 x203 x204 x205=>?_;clear l8;obtain ⟨a,z6⟩:=EH t;subst z6
     go_wp2_with fail
     have hA0:=hA.out;obtain ⟨S,hS⟩:=EH wA.heap.size;have k5:Hid (RU w1 B wA S gm gd W H L n a a (.slice (some ⟨gF,0,none⟩) a cF) (.slice none 0 0) (.slice (some ⟨gT,0,none⟩) a cT) fs ts []):=⟨HB.out,hS ▸ hA0.1.hB,hS ▸ hA0.1,World.ownsRow_nil _ _ _ _,hA0.2⟩;clear hA0 hS hA
     go_loopg [15] n (fun gk v wr=>∃(i:Nat) (vU:Value) (us:List Bool),v=.int .i64 i/\i<=n/\gk=n - i/\us.length=i/\Hid (RU w1 B wr S gm gd W H L n a a (.slice (some ⟨gF,0,none⟩) a cF) vU (.slice (some ⟨gT,0,none⟩) a cT) fs ts us))
     case atStart=>exact ⟨0,_,[],rfl,DR _,rfl,rfl,k5.out⟩
     clear k5
     case round=>
      obtain ⟨i,vU,us,rfl,hi,rfl,h5,hQ⟩:=hrel;obtain ⟨wU,rfl⟩:∃wU:World,wU=wr:=⟨_,rfl⟩;rcases DZ i n with hin | hin
      ·have p9:decide (i<n)=true:=DF hin;have q3:decide ((i:Int)<(n:Int))=true:=DF (by omega);have C9:Hid (zc w1 wU):=hQ.out.ex;have r7:us.length<=16:=by omega
       have x0:=zh h5;clear h5;go_upto_region 42 with fail;refine r42_wp hQ r7 (fun c a a' W he h=>(show a'.defers=[]/\AD w (.panicked c) W from ⟨he ▸ (show a.defers=[]/\AD w (.panicked c) W from h).1,(show a.defers=[]/\AD w (.panicked c) W from h).2⟩)) fun vU' x w2 h9 x211 x212 x213 x214 x215 x216 x217 x218=>?_;have v8:=zh h9;clear h9
       go_wp2_with fail
       go_roundg (n - (i+1))
       case measure=>omega
       case rel=>exact ⟨i+1,_,_,by go_num,hin,rfl,by rw [DK,x0.out];rfl,v8.out⟩
      ·have p9:decide (i<n)=false:=DG (by omega);have q3:decide ((i:Int)<(n:Int))=false:=DG (by omega);have r8:us.length=n:=by omega
       obtain ⟨Au,cu,s0,-,-⟩:=OwnB.bools hQ.out.ow;rw [h5] at s0;subst s0;have a2:=k6.out;obtain ⟨mm,q9,l7⟩:=RU.maze hQ.out a2.1 a2.2.1 a2.2.2 HN.out q8 r8;have v7:=zh q9;have v6:=zh l7;have I:zj wU w.heap.size 35 #[.int .i64 0,.int .i64 0,.int .i64 0,.slice none 0 0,.slice none 0 0,.slice none 0 0]:=c6.out.1.ext hQ.out.ex;have z0:wU.cell? ⟨w.heap.size,0,none⟩=some (.int .i64 0):=I.cell (k:=0) rfl;have z1:wU.cell? ⟨w.heap.size,1,none⟩=some (.int .i64 0):=I.cell (k:=1) rfl;have z2:wU.cell? ⟨w.heap.size,2,none⟩=some (.int .i64 0):=I.cell (k:=2) rfl;have z3:wU.cell? ⟨w.heap.size,3,none⟩=some (.slice none 0 0):=I.cell (k:=3) rfl;have z4:wU.cell? ⟨w.heap.size,4,none⟩=some (.slice none 0 0):=I.cell (k:=4) rfl;have z5:wU.cell? ⟨w.heap.size,5,none⟩=some (.slice none 0 0):=I.cell (k:=5) rfl;have hfz:∀j,wU.frozen? ⟨w.heap.size,j,none⟩=false:=fun j=>I.frozen j
       have m0:wU.cell? ⟨gm,0,none⟩=some (.int .i64 W):=hQ.out.ms.mz.cell (k:=0) rfl;have m1:wU.cell? ⟨gm,1,none⟩=some (.int .i64 H):=hQ.out.ms.mz.cell (k:=1) rfl;have m2:wU.cell? ⟨gm,2,none⟩=some (.int .i64 L):=hQ.out.ms.mz.cell (k:=2) rfl;have m3:wU.cell? ⟨gm,3,none⟩=some (.slice (some ⟨gF,0,none⟩) a cF):=hQ.out.ms.mz.cell (k:=3) rfl;have m4:wU.cell? ⟨gm,4,none⟩=some (.slice Au i cu):=hQ.out.ms.mz.cell (k:=4) rfl;have m5:wU.cell? ⟨gm,5,none⟩=some (.slice (some ⟨gT,0,none⟩) a cT):=hQ.out.ms.mz.cell (k:=5) rfl;have s6:=zh I;have t7:Hid (zc w1 wU):=hQ.out.ex;clear a2 q9 l7 I r8 hin hQ
       go_wp2_with fail
       refine case_fin (P:=fun W=>bodyPost Tryz.prog Tryz.f28 (AD w) Exit.ret _ W) (g2:=w.heap.size) ?_ s6.out;intro WZ a5 x6 Q;have y0:WZ.cell? ⟨w.heap.size,0,none⟩=some (.int .i64 W):=a5.cell (k:=0) rfl;have y1:WZ.cell? ⟨w.heap.size,1,none⟩=some (.int .i64 H):=a5.cell (k:=1) rfl;have y2:WZ.cell? ⟨w.heap.size,2,none⟩=some (.int .i64 L):=a5.cell (k:=2) rfl;have y3:WZ.cell? ⟨w.heap.size,3,none⟩=some (.slice (some ⟨gF,0,none⟩) a cF):=a5.cell (k:=3) rfl;have y4:WZ.cell? ⟨w.heap.size,4,none⟩=some (.slice Au i cu):=a5.cell (k:=4) rfl;have y5:WZ.cell? ⟨w.heap.size,5,none⟩=some (.slice (some ⟨gT,0,none⟩) a cT):=a5.cell (k:=5) rfl;have B3:zc w wU:=a8.out.trans t7.out;have A5:=v7.out.keep (w':=WZ) (fun b hb g9=>Q b g9 (by have:=c6.out.2;have:=HB.out;omega))
       exact Eu (v:=.agg #[.int .i64 W,.int .i64 H,.int .i64 L,.slice (some ⟨gF,0,none⟩) a cF,.slice Au i cu,.slice (some ⟨gT,0,none⟩) a cT]) (by simp [results,Tryz.results28,go_sem,y0,y1,y2,y3,y4,y5]) rfl
        ⟨_,mm,rfl,Below.trans B3 x6,A5.weaken (fun b hb=>by have:=c6.out.2;have:=HB.out;omega),v6.out⟩
end
section
open Go.RowKit
theorem CZ (a b:Int):Lens (exM a b):=⟨by simp [exM],by simp [exM],by simp [exM],fun t ht=>by
 simp only [exM,Ep,Ew,or_false] at ht;rcases ht with rfl | rfl <;> simp⟩
end
end Go.Proofs.YtcnaogdgjkpkmaaGreatDoor
