import Derived.Test.YtnmkmhpgnpojbaaGreatDoorWXs
import Derived.Deep.LoopGhost
import Derived.Deep.AppendLies
import Derived.StillTailTactics
set_option linter.unusedVariables false
set_option linter.unusedSimpArgs false
set_option maxRecDepth 100000
set_option maxHeartbeats 16000000
namespace Go.Proofs.YtnmkmhpgnpojbaaGreatDoor
variable {e:Int} {F:List (Int×Int)} {fm:List Int} {k:Nat} {b:Option Int}
section
open Go.RowKit
attribute [local go_sem ↓] Go.wp_at_zero Go.wp_at_succ
def startsReg (n:Nat):Code->Bool
 | .region id _ _=>decide (id=n)
 | .seq a _=>startsReg n a
 | .block _ c=>startsReg n c
 | _=>false
def Cg (n:Nat):Code->Option Code
 | .loop c=>if startsReg n c=true then some (.loop c) else Cg n c
 | .seq a b=>match Cg n a with
  | some c=>some c
  | none=>Cg n b
 | .cond _ a b=>match Cg n a with
  | some c=>some c
  | none=>Cg n b
 | .block _ c=>Cg n c
 | _=>none
noncomputable def code12:Code:=(Tryz.f43.body.bind (Cg 29)).getD .skip
theorem loop12_wp {w1 wr0:World} {Q:Exit->Act->World->Prop} {B gm gd gF gT cF cT n t:Nat} {W H L:Int} {fs ts:List Value} {u0 u1 u2 u3 u7 u8 u9 u10 u11 u13 u14 u15 u16 u17 u18 u19 u20 u21 u22 u23 u24 u25 u26 u27 u28 u29 u30 u31 u32 u33 u34 u35 u36 u37 u38 u39 u40 u41 u42 u43 u44 u45 u46 u47 u48 u49 u50 u51 u52 u53 u54 u55 u56 u57 u58 u59 u60 u61 u62 u63 u64 u65 u66 u67 u68 u69 u70 u71 u72 u73 u74 u75 u76 u77 u78 u79 u80 u81 u82 u83 u84 u85 u86 u87 u88 u89 u90 u91 u92 u93 u94 u95 u96 u97 u98 u99 u100 u101 u102 u103 u104 u105 u106 u107 u108 u109 u110 u111 u112 u113 u114 u115 u116 u117 u118 u119 u120 u121 u122 u123 u124 u125 u126 u127 u128 u129 u130 u131 u132 u133 u134 u135 u136 u137 u138 u139 u140 u141 u142 u143 u144 u145 u146 u147 u148 u149 u150 u151 u152 u153 u154 u155 u156 u157 u158 u159 u160 u161 u162 u163 u164 u165 u166 u167 u168 u169 u170 u171 u172 u173 u174 u175 u176 u177 u178 u179 u180 u181 u182 u183 u184 u185 u186 u187 u188 u189 u190 u191 u192 u193 u194 u195 u196 u197 u198 u199 u200 u201 u202 u203 u204 u205 u206 u207 u208 u209 u210 u211 u212 u213 u214 u215 u216 u217 u218 u219:Value}
  (HB:Hid (B=w1.heap.size)) (f1:B<=gT) (f0:B<=gF) (HcT:Hid (t<=cT)) (HcF:Hid (t<=cF)) (f7:2<=n/\n<=16) (f6:1<=t/\t<=3)
  (hA0:Hid (MS B wr0 wr0.heap.size gm gd W H L n t t (.slice (some ⟨gF,0,none⟩) t cF) (.slice none 0 0) (.slice (some ⟨gT,0,none⟩) t cT) fs ts/\zb w1 wr0))
  (hP:∀c (a a':Act) w,a.defers=a'.defers->Q (.panic c) a w->Q (.panic c) a' w)
  (E:∀(w2:World),Hid (MS B w2 w2.heap.size gm gd W H L n t t (.slice (some ⟨gF,0,none⟩) t cF) (.slice none 0 0) (.slice (some ⟨gT,0,none⟩) t cT) fs ts/\zb w1 w2)->∀(x13 x14 x143 x144 x145 x146 x147 x148 x149 x150 x151 x152 x153 x154 x155 x156 x157 x158 x159 x160 x161 x162 x163 x164 x165 x166 x167 x168 x169 x170 x171 x172 x173 x174 x175 x176 x177 x178 x179 x180 x181 x182 x183 x184 x185 x186 x187 x188 x189 x190 x191 x192 x193 x194 x195 x196 x197 x198 x199 x200 x201 x202 x203 x204 x205:Value),Q (.exit 4) ⟨(u0 :: u1 :: u2 :: u3 :: Value.pointer (some ⟨gm,0,none⟩) :: Value.int .i64 (n:Nat) :: Value.int .i64 (t:Nat) :: u7 :: u8 :: u9 :: u10 :: u11 :: Value.int .i64 (t:Nat) :: x13 :: x14 :: u15 :: u16 :: u17 :: u18 :: u19 :: u20 :: u21 :: u22 :: u23 :: u24 :: u25 :: u26 :: u27 :: u28 :: u29 :: u30 :: u31 :: u32 :: u33 :: u34 :: u35 :: u36 :: u37 :: u38 :: u39 :: u40 :: u41 :: u42 :: u43 :: u44 :: u45 :: u46 :: u47 :: u48 :: u49 :: u50 :: u51 :: u52 :: u53 :: u54 :: u55 :: u56 :: u57 :: u58 :: u59 :: u60 :: u61 :: u62 :: u63 :: u64 :: u65 :: u66 :: u67 :: u68 :: u69 :: u70 :: u71 :: u72 :: u73 :: u74 :: u75 :: u76 :: u77 :: u78 :: u79 :: u80 :: u81 :: u82 :: u83 :: u84 :: u85 :: u86 :: u87 :: u88 :: u89 :: u90 :: u91 :: u92 :: u93 :: u94 :: u95 :: u96 :: u97 :: u98 :: u99 :: u100 :: u101 :: u102 :: u103 :: u104 :: u105 :: u106 :: u107 :: u108 :: u109 :: u110 :: u111 :: u112 :: u113 :: u114 :: u115 :: u116 :: u117 :: u118 :: u119 :: u120 :: u121 :: u122 :: u123 :: u124 :: u125 :: u126 :: u127 :: u128 :: u129 :: u130 :: u131 :: u132 :: u133 :: u134 :: u135 :: u136 :: u137 :: u138 :: u139 :: u140 :: u141 :: u142 :: x143 :: x144 :: x145 :: x146 :: x147 :: x148 :: x149 :: x150 :: x151 :: x152 :: x153 :: x154 :: x155 :: x156 :: x157 :: x158 :: x159 :: x160 :: x161 :: x162 :: x163 :: x164 :: x165 :: x166 :: x167 :: x168 :: x169 :: x170 :: x171 :: x172 :: x173 :: x174 :: x175 :: x176 :: x177 :: x178 :: x179 :: x180 :: x181 :: x182 :: x183 :: x184 :: x185 :: x186 :: x187 :: x188 :: x189 :: x190 :: x191 :: x192 :: x193 :: x194 :: x195 :: x196 :: x197 :: x198 :: x199 :: x200 :: x201 :: x202 :: x203 :: x204 :: x205 :: u206 :: u207 :: u208 :: u209 :: u210 :: u211 :: u212 :: u213 :: u214 :: u215 :: u216 :: u217 :: u218 :: u219 :: []).toArray,[]⟩ w2):
  code12.wp Tryz.prog Q ⟨(u0 :: u1 :: u2 :: u3 :: Value.pointer (some ⟨gm,0,none⟩) :: Value.int .i64 (n:Nat) :: Value.int .i64 (t:Nat) :: u7 :: u8 :: u9 :: u10 :: u11 :: Value.int .i64 0 :: u13 :: u14 :: u15 :: u16 :: u17 :: u18 :: u19 :: u20 :: u21 :: u22 :: u23 :: u24 :: u25 :: u26 :: u27 :: u28 :: u29 :: u30 :: u31 :: u32 :: u33 :: u34 :: u35 :: u36 :: u37 :: u38 :: u39 :: u40 :: u41 :: u42 :: u43 :: u44 :: u45 :: u46 :: u47 :: u48 :: u49 :: u50 :: u51 :: u52 :: u53 :: u54 :: u55 :: u56 :: u57 :: u58 :: u59 :: u60 :: u61 :: u62 :: u63 :: u64 :: u65 :: u66 :: u67 :: u68 :: u69 :: u70 :: u71 :: u72 :: u73 :: u74 :: u75 :: u76 :: u77 :: u78 :: u79 :: u80 :: u81 :: u82 :: u83 :: u84 :: u85 :: u86 :: u87 :: u88 :: u89 :: u90 :: u91 :: u92 :: u93 :: u94 :: u95 :: u96 :: u97 :: u98 :: u99 :: u100 :: u101 :: u102 :: u103 :: u104 :: u105 :: u106 :: u107 :: u108 :: u109 :: u110 :: u111 :: u112 :: u113 :: u114 :: u115 :: u116 :: u117 :: u118 :: u119 :: u120 :: u121 :: u122 :: u123 :: u124 :: u125 :: u126 :: u127 :: u128 :: u129 :: u130 :: u131 :: u132 :: u133 :: u134 :: u135 :: u136 :: u137 :: u138 :: u139 :: u140 :: u141 :: u142 :: u143 :: u144 :: u145 :: u146 :: u147 :: u148 :: u149 :: u150 :: u151 :: u152 :: u153 :: u154 :: u155 :: u156 :: u157 :: u158 :: u159 :: u160 :: u161 :: u162 :: u163 :: u164 :: u165 :: u166 :: u167 :: u168 :: u169 :: u170 :: u171 :: u172 :: u173 :: u174 :: u175 :: u176 :: u177 :: u178 :: u179 :: u180 :: u181 :: u182 :: u183 :: u184 :: u185 :: u186 :: u187 :: u188 :: u189 :: u190 :: u191 :: u192 :: u193 :: u194 :: u195 :: u196 :: u197 :: u198 :: u199 :: u200 :: u201 :: u202 :: u203 :: u204 :: u205 :: u206 :: u207 :: u208 :: u209 :: u210 :: u211 :: u212 :: u213 :: u214 :: u215 :: u216 :: u217 :: u218 :: u219 :: []).toArray,[]⟩ wr0:=by
 have a3:=zh hA0.out.1;have a4:=zh hA0.out.2;clear hA0;have J:=zh E;clear E
 conv=>arg 2;whnf
 go_loopg [12] t (fun gk v wr=>∃(a:Nat),v=.int .i64 a/\a<=t/\gk=t - a/\Hid (MS B wr wr.heap.size gm gd W H L n t t (.slice (some ⟨gF,0,none⟩) t cF) (.slice none 0 0) (.slice (some ⟨gT,0,none⟩) t cT) fs ts/\zb w1 wr))
 case atStart=>exact ⟨0,rfl,DF _,rfl,a3.out,a4.out⟩
 clear a3 a4
 case round=>
  obtain ⟨a,rfl,ha,rfl,hA⟩:=hrel;obtain ⟨wA,rfl⟩:∃wA:World,wA=wr:=⟨_,rfl⟩;rcases DO a t with z | hage
  ·skip
   go_wp2_with fail
   go_loopg [13] t (fun gk v wr=>∃(b:Nat),v=.int .i64 b/\b<=t/\gk=t - b/\Hid (MS B wr wr.heap.size gm gd W H L n t t (.slice (some ⟨gF,0,none⟩) t cF) (.slice none 0 0) (.slice (some ⟨gT,0,none⟩) t cT) fs ts/\zb w1 wr))
   case atStart=>exact ⟨0,rfl,DF _,rfl,hA.out⟩
   clear hA
   case round=>
    obtain ⟨b,rfl,hb,rfl,hA⟩:=hrel;obtain ⟨wB,rfl⟩:∃wB:World,wB=wr:=⟨_,rfl⟩;rcases DO b t with D | hbge
    ·go_wp2_with fail
     go_loopg [14] n (fun gk v wr=>∃(k:Nat),v=.int .i64 k/\k<=n/\gk=n - k/\Hid (MS B wr wr.heap.size gm gd W H L n t t (.slice (some ⟨gF,0,none⟩) t cF) (.slice none 0 0) (.slice (some ⟨gT,0,none⟩) t cT) fs ts/\zb w1 wr))
     case atStart=>exact ⟨0,rfl,DF _,rfl,hA.out⟩
     clear hA
     case round=>
      obtain ⟨k,rfl,hk,rfl,hA⟩:=hrel;by_cases M:k<n/\b≠a
      ·obtain ⟨O,d⟩:=M;have G:decide (k<n)=true:=Du O;have e6:decide ((k:Int)<(n:Int))=true:=Du (by omega);have a5:((b:Int)==(a:Int))=false:=by rw [DE];omega
       have a6:((b:Int) != (a:Int))=true:=by rw [bne_iff_ne];omega
       have d4:(b==a)=false:=by rw [DE];exact d
       have d5:(b != a)=true:=by rw [bne_iff_ne];exact d
       have d6:decide (b=a)=false:=Dv d;have e3:=HcT.out;have d9:=HcF.out;have f5:(0:Int)<=(b:Int)/\(b:Int)<(t:Int):=by omega
       have c8:(0:Int)<=(a:Int)/\(a:Int)<(t:Int):=by omega
       have e5:(0:Int)<=(k:Int)/\(k:Int)<(n:Int):=by omega
       have hm:=hA.out.1;have m5:wr.cell? ⟨gm,5,none⟩=some (.slice (some ⟨gT,0,none⟩) t cT):=hm.mz.cell (k:=5) rfl;have m3:wr.cell? ⟨gm,3,none⟩=some (.slice (some ⟨gF,0,none⟩) t cF):=hm.mz.cell (k:=3) rfl;obtain ⟨sb,u1,u2,e0,e1,e2,l1,l2,o1,o2,-,⟨k1,k2⟩,-,-⟩:=hm.td b D;obtain ⟨sa,v1,v2,d0,d1,d2,p1,p2,q1,q2,-,⟨j1,j2⟩,-,-⟩:=hm.td a z;obtain ⟨uf,a9,lf,o,b0,-⟩:=hm.fd a z;have b8:0<lf.length:=by omega
       obtain ⟨gb,cb,rfl,b6,-⟩:=World.ownsRow.form o b8;have T1:wr.cell? ⟨gT,b*3+1,none⟩=some u1:=(hm.T.cellAt (b*3+1) (by omega)).trans e1;have T2:wr.cell? ⟨gT,b*3+2,none⟩=some u2:=(hm.T.cellAt (b*3+2) (by omega)).trans e2;have A1:wr.cell? ⟨gT,a*3+1,none⟩=some v1:=(hm.T.cellAt (a*3+1) (by omega)).trans d1;have A2:wr.cell? ⟨gT,a*3+2,none⟩=some v2:=(hm.T.cellAt (a*3+2) (by omega)).trans d2;have F1:wr.cell? ⟨gF,a,none⟩=some (.slice (some ⟨gb,0,none⟩) lf.length cb):=(hm.F.cellAt a (by omega)).trans a9;have e4:=Be o;have b5:∀j,wr.frozen? ⟨gb,j,none⟩=false:=fun j=>World.ownsRow.frozenAt o j
       have I:∃bo,wr.cell? ⟨gb,k,none⟩=some (.bool bo):=by
        have U:=World.ownsRow.cellAt o k (by omega);rw [Ea,Do (by omega)] at U;exact ⟨_,U⟩
       obtain ⟨bo,I⟩:=I;have a1:Hid (∃cs,ze wr gb 4 cs):=own_blkB o;have f3:=zh b0;have b7:(k:Int)<(lf.length:Int):=by omega
       obtain ⟨b1,B1⟩:=hasB (k:Int) o1 (by omega);obtain ⟨b2,B2⟩:=hasB (k:Int) o2 (by omega);obtain ⟨b3,B3⟩:=hasB (k:Int) q1 (by omega);obtain ⟨b4,B4⟩:=hasB (k:Int) q2 (by omega);have V:=zh B1;have a0:=zh B2;have b9:=zh B3;have c0:=zh B4;clear B1 B2 B3 B4 e0 e1 e2 o1 o2 d0 d1 d2 q1 q2 a9 o b0 hm d;go_upto_region 37 with fail;go_cut [180] from 163 to 180 (fun s wx=>(∃bb,s=.bool bb)/\wr=wx)
       case first=>
        go_wp2_with fail
        refine (V.out wr (zb.refl _)).mono ?_;rintro e w' ⟨rfl,rfl⟩
        cases b1 with
        | true=>
         go_wp2_with fail
         go_meet;exact ⟨⟨_,rfl⟩,rfl⟩
        | false=>
         go_wp2_with fail
         refine (a0.out wr (zb.refl _)).mono ?_;rintro e w' ⟨rfl,rfl⟩
         go_wp2_with fail
         go_meet;exact ⟨⟨_,rfl⟩,rfl⟩
       case rest=>
        obtain ⟨⟨bb,rfl⟩,rfl⟩:=hcut
        cases bb with
        | true=>
         clear G e6 a5 a6 d4 d5 d6 T1 T2 b8 e3
         go_wp2_with fail
         have a2:Hid (∀x,MS B ((wr.drew).setCell ⟨gb,k,none⟩ (.bool x)) ((wr.drew).setCell ⟨gb,k,none⟩ (.bool x)).heap.size gm gd W H L n t t (.slice (some ⟨gF,0,none⟩) t cF) (.slice none 0 0) (.slice (some ⟨gT,0,none⟩) t cT) fs ts/\zb w1 ((wr.drew).setCell ⟨gb,k,none⟩ (.bool x))):=fun x=>hA.out.1.stored (k:=k) hA.out.2 HB.out a1.out b6 x
         obtain ⟨csT,K⟩:=own_blkB hA.out.1.T;obtain ⟨csF,a8⟩:=own_blkB hA.out.1.F;obtain ⟨csB,a7⟩:=a1.out;have r5:=SB.rule hA.out.1.mz (by decide) m5;have r3:=SB.rule hA.out.1.mz (by decide) m3;have ra1:=SB.rule K (by decide) A1;have ra2:=SB.rule K (by decide) A2;have rf1:=SB.rule a8 (by decide) F1;have c7:Hid (∀W x,SB wr W->SB wr (W.setCell ⟨gb,k,none⟩ x)):=fun W x h=>h.set a7 x
         clear V a0 m5 m3 A1 A2 F1 K a8 a7;refine r38_wp (n:=n) c8 e5 d9 e4 b7 r5 r3 ra1 ra2 rf1 I b5 b9 c0 c7 (fun c a a' W he h=>hP c a a' W he h) fun b' x181 x182 x183 x184 x185 x186 x187 x188 x189 x190 x191 x192 x193 x194 x195 x196 x197 x198 x199 x200 x201 x202 x203 x204 x205=>?_;have c6:=zh (a2.out b');clear I b5 a2 r5 r3 ra1 ra2 rf1
         go_wp2_with fail
         go_roundg (n - (k+1))
         case measure=>omega
         case rel=>exact ⟨k+1,by go_num,O,rfl,c6.out⟩
        | false=>
         go_wp2_with fail
         go_roundg (n - (k+1))
         case measure=>omega
         case rel=>exact ⟨k+1,by go_num,O,rfl,hA.out⟩
      ·have e8:decide (k<n)=false\/(decide (k<n)=true/\b=a):=by
        by_cases U:k<n
        ·exact .inr ⟨Du U,by by_cases h2:b=a;exact h2;exact absurd ⟨U,h2⟩ M⟩
        ·exact .inl (Dv U)
       clear M;rcases e8 with G | ⟨G,d⟩
       ·have e7:¬ k<n:=of_decide_eq_false G
        go_wp2_with fail
        go_roundg (t - (b+1))
        case measure=>omega
        case rel=>exact ⟨b+1,by go_num,D,rfl,hA.out⟩
       ·subst d;have e7:k<n:=Ew G;have a5:((b:Int)==(b:Int))=true:=by simp
        have a6:((b:Int) != (b:Int))=false:=by simp
        go_wp2_with fail
        go_roundg (t - (b+1))
        case measure=>omega
        case rel=>exact ⟨b+1,by go_num,D,rfl,hA.out⟩
    ·have d8:b=t:=by omega
     subst d8;have d7:decide (b<b)=false:=Dv (by omega);clear hbge
     go_wp2_with fail
     go_roundg (b - (a+1))
     case measure=>omega
     case rel=>exact ⟨a+1,by go_num,z,rfl,hA.out⟩
  ·have c9:a=t:=by omega
   subst c9;have d7:decide (a<a)=false:=Dv (by omega);clear hage
   go_wp2_with fail
   exact J.out wA hA _ _ _ _ _ _ _ _ _ _ _ _ _ _ _ _ _ _ _ _ _ _ _ _ _ _ _ _ _ _ _ _ _ _ _ _ _ _ _ _ _ _ _ _ _ _ _ _ _ _ _ _ _ _ _ _ _ _ _ _ _ _ _ _ _
theorem made_calls {ok:Nat->Prop} {v:Value} {ls:List (List Int)} (w:World) (hl:zU w ok v ls) (C5:ls.length<=9223372036854775807) (q1:∀l∈ls,l.length<=9223372036854775807):
  Calls Tryz.prog 43 #[v] w (An w):=by
 have p8:=hl.bound;have B8:=zh p8;obtain ⟨vs,⟨A,c,rfl,hc,hr⟩,he⟩:=p8;have HR:=zh hr;have HE:=zh he;clear hl hr he;have j9:=zh q1;clear q1;obtain ⟨iI,ji,jz0,jz1,jz2⟩:=info_parts Tryz.infoInt;have JF:=zh ji;have JZ0:=zh jz0;have JZ1:=zh jz1;have JZ2:=zh jz2;clear ji jz0 jz1 jz2;obtain ⟨iB,bi,bz0,bz1,bz2⟩:=info_parts Tryz.infoBool;have BF:=zh bi;have BZ0:=zh bz0;have BZ1:=zh bz1;have BZ2:=zh bz2;clear bi bz0 bz1 bz2;obtain ⟨iT,ti,tz0,tz1,tz2⟩:=info_parts Tryz.infoTask;have TF:=zh ti;have TZ0:=zh tz0;have TZ1:=zh tz1;have TZ2:=zh tz2;clear ti tz0 tz1 tz2;obtain ⟨iL,li,lz0,lz1,lz2⟩:=info_parts Tryz.infoBools;have LF:=zh li;have LZ0:=zh lz0;have LZ1:=zh lz1;have LZ2:=zh lz2;clear li lz0 lz1 lz2
 go_enter Tryz.func43,Tryz.ntmps43
 go_upto_region 1 with fail;generalize h6:w.alloc (.cells #[.int .i64 0,.int .i64 0,.int .i64 0,.slice none 0 0,.slice none 0 0,.slice none 0 0] 32)=w1;have k8:zb w w1:=by rw [<-h6];exact (zb.refl w).alloc _
 have c7:Hid (ze w1 w.heap.size 32 #[.int .i64 0,.int .i64 0,.int .i64 0,.slice none 0 0,.slice none 0 0,.slice none 0 0]/\w1.heap.size=w.heap.size+1):=by rw [<-h6];exact ⟨ze.new _ _ _ rfl,by simp⟩
 clear h6;have a9:=zh k8;obtain ⟨B,hB⟩:=Ez w1.heap.size;obtain ⟨gd,d4⟩:=Ez w1.heap.size;have HB:=zh hB;have e0:=zh d4;have n1:zP B (w1.alloc (.cells #[.slice none 0 0,.int .i64 0] 163)) gd:=⟨by omega,_,0,[],ze.new _ _ _ d4,zk.nil _ _,by simp,by simp⟩;have r9:=zh n1;clear n1 k8
 go_upto_if 20 with fail
 rw [<-d4];go_cut [] (fun wx=>Hid (zb w1 wx/\zP B wx gd))
 case first=>
  by_cases D:ls.length=0
  ·have g9:decide ((0:Int)<(ls.length:Int))=false:=by rw [D];rfl
   have d5:decide (0<ls.length)=false:=by rw [D];rfl
   have f4:¬ (0<ls.length):=by omega
   have HZ:=zh D;clear D
   go_wp2_with fail
   go_meet;exact ⟨(zb.refl _).alloc _,r9.out⟩
  ·have hp:0<ls.length:=by omega
   have g9:decide ((0:Int)<(ls.length:Int))=true:=Du (by omega);have d5:decide (0<ls.length)=true:=Du hp;obtain ⟨b0,o0,u0,rfl,q5,a7,d8⟩:=BU HR.out HE.out hp hp;have HU:=zh d8;obtain ⟨A0,c0,rfl,m9,-⟩:=d8;rw [Nat.add_zero] at a7;have q0:=zb.rule a7;have f2:zb w (w1.alloc (.cells #[.slice none 0 0,.int .i64 0] 163)):=a9.out.alloc _;clear D a7
   go_wp2_with fail
   go_meet;have h1:=f2;refine ⟨(zb.refl _).alloc _,by omega,_,0,ls[0],ze.new _ _ _ d4,?_,j9.out _ (Dr hp),DF _⟩;exact (zk.below HU.out (a9.out.alloc _)).weaken fun b hb=>by have:=hb.2;have:=c7.out.2;omega
 case rest=>
  have g4:B<=w1.heap.size:=by omega
  clear hB d4;obtain ⟨h8,n2⟩:=hcut.out;have s0:=zh n2;clear hcut n2
  go_wp2_with fail
  refine (zG 3 s0.out (by omega) (by omega)).mono ?_;rintro e w3 ⟨x,rfl,C6,C7,n3,o8⟩;have i0:zb w1 w3:=Below.grown h8 o8 h8.size (fun k U=>by injection U with U;have:=e0.out;omega);have s1:=zh n3;clear n3 o8 h8
  go_wp2_with fail
  refine (zG 4 s1.out (by omega) (by omega)).mono ?_;rintro e w4 ⟨y,rfl,C8,C9,n4,o9⟩;have i1:zb w1 w4:=Below.grown i0 o9 i0.size (fun k U=>by injection U with U;have:=e0.out;omega);have s2:=zh n4;clear n4 o9 i0
  go_wp2_with fail
  refine (zG 2 s2.out (by omega) (by omega)).mono ?_;rintro e w5 ⟨z,rfl,D1,D2,n5,p1⟩;have a8:zb w1 w5:=Below.grown i1 p1 i1.size (fun k U=>by injection U with U;have:=e0.out;omega);have s3:=zh n5;clear n5 p1 i1;have k1:Hid (ze (w5.alloc (.cells #[.int .i64 (2+x),.int .i64 (1+y),.int .i64 (1+z),.slice none 0 0,.slice none 0 0,.slice none 0 0] 32)) w5.heap.size 32 #[.int .i64 (2+x),.int .i64 (1+y),.int .i64 (1+z),.slice none 0 0,.slice none 0 0,.slice none 0 0]):=ze.new _ _ _ rfl;obtain ⟨gm,e8⟩:=Ez w5.heap.size;rw [<-e8] at k1;have g1:=zh e8;have s5:=zh a8
  go_upto_if 39 with fail
  rw [<-e8];clear e8;go_cut [] (fun wx=>Hid (zb w1 wx/\zP B wx gd/\∃W H L:Int,(2<=W/\W<=4)/\(1<=H/\H<=4)/\(L=1\/(L=2/\W<=3/\H<=2))/\ze wx gm 32 #[.int .i64 W,.int .i64 H,.int .i64 L,.slice none 0 0,.slice none 0 0,.slice none 0 0]))
  case first=>
   have a5:=k1.out;generalize h7:w5.alloc (.cells #[.int .i64 (2+x),.int .i64 (1+y),.int .i64 (1+z),.slice none 0 0,.slice none 0 0,.slice none 0 0] 32)=w6 at*;have i2:zb w1 w6:=by rw [<-h7];exact a8.alloc _
   have i8:Hid (zP B w6 gd):=by rw [<-h7];exact s3.out.ext ((zb.refl _).alloc _) (Dt g4 a8.size)
   clear h7;have m0:w6.cell? ⟨gm,0,none⟩=some (.int .i64 (2+x)):=a5.cell (k:=0) rfl;have m1:w6.cell? ⟨gm,1,none⟩=some (.int .i64 (1+y)):=a5.cell (k:=1) rfl;have m2:w6.cell? ⟨gm,2,none⟩=some (.int .i64 (1+z)):=a5.cell (k:=2) rfl;have hf:=fun k=>a5.frozen k
   have f7:=zh a5;clear a5;by_cases d9:z=1
   ·have ht:((1+z:Int)==2)=true:=by rw [beq_iff_eq];omega
    have x9:decide (1+z=2)=true:=Du (by omega);have h4:(z==1)=true:=by rw [beq_iff_eq];exact d9
    have v4:=zh d9;clear d9
    go_wp2_with fail
    go_meet;have e7:B<=gm:=by have:=g1.out;have:=a8.size;omega
    have p4:w1.heap.size<=gm:=by have:=g1.out;have:=a8.size;omega
    have o6:=i8.out;refine ⟨(i2.setCell (p:=⟨gm,0,none⟩) p4 _).setCell (p:=⟨gm,1,none⟩) p4 _,?_,min (2+x) 3,min (1+y) 2,1+z,by omega,by omega,.inr ⟨by have:=v4.out;omega,by omega,by omega⟩,?_⟩
    ·obtain ⟨cs,hb⟩:=o6.blk;have q4:gd≠gm:=ze.ne_ hb (f7.out) (by decide);exact o6.keep (((Below.refl B w6).setCell (p:=⟨gm,0,none⟩) e7 _).setCell (p:=⟨gm,1,none⟩) e7 _) ((DA _ ⟨gm,1,none⟩ _ gd q4).trans (DA _ ⟨gm,0,none⟩ _ gd q4))
    ·exact ((f7.out).set (k:=0) _).set (k:=1) _
   ·have ht:((1+z:Int)==2)=false:=by rw [DE];omega
    have x9:decide (1+z=2)=false:=Dv (by omega);have h4:(z==1)=false:=by rw [DE];exact d9
    have r5:Hid (1+z=1):=by show _=_;omega
    clear d9
    go_wp2_with fail
    go_meet;exact ⟨i2,i8.out,2+x,1+y,1+z,by omega,by omega,.inl r5.out,f7.out⟩
  case rest=>
   obtain ⟨i3,n6,W,H,L,hW,hH,hL,M⟩:=hcut.out;clear hcut;have o4:=dims hW hH hL;have k4:Hid ((2<=W/\W<=4)/\(1<=H/\H<=4)/\(L=1\/(L=2/\W<=3/\H<=2))):=⟨hW,hH,hL⟩;have m0:wc.cell? ⟨gm,0,none⟩=some (.int .i64 W):=M.cell (k:=0) rfl;have m1:wc.cell? ⟨gm,1,none⟩=some (.int .i64 H):=M.cell (k:=1) rfl;have m2:wc.cell? ⟨gm,2,none⟩=some (.int .i64 L):=M.cell (k:=2) rfl;have m3:wc.cell? ⟨gm,3,none⟩=some (.slice none 0 0):=M.cell (k:=3) rfl;have m4:wc.cell? ⟨gm,4,none⟩=some (.slice none 0 0):=M.cell (k:=4) rfl;have m5:wc.cell? ⟨gm,5,none⟩=some (.slice none 0 0):=M.cell (k:=5) rfl;have t3:=zh M;have s4:=zh n6;clear M n6 hW hH hL a8
   go_wp2_with fail
   refine (qnodes_calls W H L _ _ _ _ (by omega) (by omega)).mono ?_;rintro e w8 ⟨rfl,m8⟩;have a4:zb wc w8:=m8;have f3:zb w1 w8:=i3.trans a4;have i9:Hid (zP B w8 gd):=s4.out.ext a4 (Dt g4 i3.size);have t4:Hid (ze w8 gm 32 #[.int .i64 W,.int .i64 H,.int .i64 L,.slice none 0 0,.slice none 0 0,.slice none 0 0]):=t3.out.ext a4;obtain ⟨n,hn⟩:∃n:Nat,(n:Int)=W*H*L:=⟨(W*H*L).toNat,by omega⟩;rw [<-hn];have HN:=zh hn;have e9:2<=n/\n<=16:=by omega
   clear hn o4 m0 m1 m2 m3 m4 m5 m8 a4 i3
   go_wp2_with fail
   refine (zG 3 i9.out (by omega) (by omega)).mono ?_;rintro e w9 ⟨z9,rfl,r6,r7,n7,g5⟩;obtain ⟨many,d7⟩:∃many:Nat,(many:Int)=1+z9:=⟨(1+z9).toNat,by omega⟩;have q2:1<=many/\many<=3:=by omega
   have H9:Hid (MS B w9 w9.heap.size gm gd W H L n 0 0 (.slice none 0 0) (.slice none 0 0) (.slice none 0 0) [] []):=by
    have e7:B<=gm:=by have:=g1.out;have:=s5.out.size;omega
    have h0:MS B w8 w8.heap.size gm gd W H L n 0 0 (.slice none 0 0) (.slice none 0 0) (.slice none 0 0) [] []:=⟨Dt g4 f3.size,Dq _,t4.out,e7,i9.out,World.ownsRow_nil _ _ _ _,World.ownsRow_nil _ _ _ _,fun j hj=>by omega,fun j hj=>by omega⟩;have h1:=h0.drawn n7 g5;exact h1.ext (zb.refl _)
   have r4:zb w1 w9:=Below.grown f3 g5 f3.size (fun k U=>by injection U with U;have:=e0.out;omega);have k5:=zh r4;clear n7 g5 r4 f3
   go_wp2_with fail
   rw [<-d7];clear d7 r6 r7
   go_loopg [7] many (fun gk v wr=>∃(t:Nat) (vF vT:Value) (fs ts:List Value),v=.int .i64 t/\t<=many/\gk=many - t/\Hid (MS B wr wr.heap.size gm gd W H L n t t vF (.slice none 0 0) vT fs ts/\zb w1 wr))
   case atStart=>exact ⟨0,_,_,[],[],rfl,DF _,rfl,H9.out,k5.out⟩
   clear H9 k5
   case round=>
    obtain ⟨t,vF,vT,fs,ts,rfl,ht,rfl,E⟩:=hrel;obtain ⟨wR,rfl⟩:∃wR:World,wR=wr:=⟨_,rfl⟩;rcases DO t many with h2 | hge
    ·skip
     have h3:B<=wR.heap.size:=E.out.1.hB;obtain ⟨ge,hge⟩:=Ez wR.heap.size;have b6:=zh hge;have j1:Hid (zP B (wR.alloc (.cells #[.slice none 0 0,.int .i64 0] 163)) ge):=⟨by omega,_,0,[],ze.new _ _ _ hge,zk.nil _ _,by simp,by simp⟩;have f8:Hid (ze (wR.alloc (.cells #[.slice none 0 0,.int .i64 0] 163)) ge 163 #[.slice none 0 0,.int .i64 0]):=ze.new _ _ _ hge;have f9:Hid (zb wR (wR.alloc (.cells #[.slice none 0 0,.int .i64 0] 163))):=(zb.refl _).alloc _
     go_upto_if 64 with fail
     rw [<-hge];clear hge;generalize wR.alloc _=wa at*;go_cut [] (fun wx=>Hid (zb wR wx/\zP B wx ge))
     case first=>
      by_cases D:t+1<ls.length
      ·have g9:decide ((t:Int)+1<(ls.length:Int))=true:=Du (by omega);have d5:decide (t+1<ls.length)=true:=Du D;have f4:(t:Int)+1<(ls.length:Int):=by omega
       obtain ⟨b0,o0,u0,rfl,q5,a7,d8⟩:=BU HR.out HE.out D D;have HU:=zh d8;obtain ⟨A0,c0,rfl,m9,-⟩:=d8;have q0:=zb.rule a7;have r3:zb w wR:=a9.out.trans E.out.2;have f2:zb w wa:=r3.trans f9.out;have v3:=zh f2;have C0:wa.cell? ⟨ge,0,none⟩=some (.slice none 0 0):=f8.out.cell (k:=0) rfl;have C2:wa.frozen? ⟨ge,0,none⟩=false:=f8.out.frozen 0;clear a7 r3
       go_wp2_with fail
       go_meet;have x0:wR.heap.size<=ge:=by have:=b6.out;omega
       have x3:w.heap.size<=ge:=by have:=b6.out;have:=(Below.size (a9.out.trans E.out.2));omega
       refine ⟨f9.out.setCell (p:=⟨ge,0,none⟩) x0 _,by have:=b6.out;omega,_,0,ls[t+1],f8.out.set (k:=0) _,?_,j9.out _ (Dr D),DF _⟩;exact (zk.keep HU.out (zN.of_below (v3.out.setCell (p:=⟨ge,0,none⟩) x3 _))).weaken fun b hb=>by have:=hb.2;have:=c7.out.2;have:=HB.out;omega
      ·have g9:decide ((t:Int)+1<(ls.length:Int))=false:=Dv (by omega);have d5:decide (t+1<ls.length)=false:=Dv D;have f4:¬ (t:Int)+1<(ls.length:Int):=by omega
       have HZ:=zh D;clear D
       go_wp2_with fail
       go_meet;exact ⟨f9.out,j1.out⟩
     case rest=>
      obtain ⟨i4,o3⟩:=hcut.out;have g3:=zh i4;have j0:=zh o3;clear hcut o3 j1;obtain ⟨w6,rfl⟩:∃w6:World,w6=wc:=⟨_,rfl⟩;have v5:B<=w6.heap.size:=Dt h3 i4.size;have x4:ge<w6.heap.size:=j0.out.lt;have h4:t<3:=by omega
      have q6:(t:Int)<3:=by omega
      have q7:(0:Int)<=(t:Int):=by omega
      clear i4
      go_wp2_with fail
      refine r16_wp j0 v5 x4 h4 q6 q7 e9 ?hQ16
      case hQ16=>
       intro v W hJ _;obtain ⟨s,g7,g11,gt,x1,x2,y7,y8,r1,f5,l8⟩:=hJ.fin h3 g3.out.size (by have:=b6.out;omega);have k9:zb wR W:=Below.grown g3.out hJ.gb g3.out.size (fun k U=>by injection U with U;have:=b6.out;omega);have e2:=zh l8;have j6:=zh k9;clear hJ l8 k9 y7 y8 r1;rw [f5];clear f5
       go_wp2_with fail
       refine (zG 3 e2.out.dr (by omega) (by omega)).mono ?_;rintro e wb ⟨z,rfl,r5,D0,n8,g6⟩;have b8:=zh (e2.out.drawn n8 g6);have b5:=zh (e2.out.drawnExt j6.out g6);clear n8 g6 e2 j6
       go_upto_if 88 with fail
       go_cut [] (fun wx=>∃(u1:Value) (l1:List Int),Hid (R1 B wx wR.heap.size ge gt n s u1 (.slice (some ⟨g11,0,none⟩) 1 1) l1 [x2]/\zb wR wx/\l1.length<=2))
       case first=>
        by_cases D:z=0
        ·have i5:(z==0)=true:=by rw [beq_iff_eq];exact D
         have HZ:=zh D;clear D
         go_wp2_with fail
         refine r18_wp b8 b5 e9 (fun c a a' W he h=>(show a'.defers=[]/\An w (.panicked c) W from ⟨he ▸ (show a.defers=[]/\An w (.panicked c) W from h).1,(show a.defers=[]/\An w (.panicked c) W from h).2⟩)) fun u1 l1 W h9 x89 x90 x91 x92 x93 x94 x95 x96=>?_
         go_wp2_with fail
         go_meet;exact ⟨_,_,h9⟩
        ·have i5:(z==0)=false:=by rw [DE];exact D
         have HZ:=zh D;clear D
         go_wp2_with fail
         go_meet;exact ⟨_,[x1],b8.out,b5.out,by simp⟩
       case rest=>
        obtain ⟨u1,l1,f0⟩:=hcut;have e3:=zh f0.out.1;have j3:=zh f0.out.2.1;have j7:=zh f0.out.2.2;clear f0
        go_wp2_with fail
        refine (zG 3 e3.out.dr (by omega) (by omega)).mono ?_;rintro e wq ⟨zz,rfl,B5,B6,o5,g8⟩;have b9:=zh (e3.out.drawn o5 g8);have b3:=zh (e3.out.drawnExt j3.out g8);clear o5 g8 e3 j3 b8 b5
        go_upto_if 99 with fail
        go_cut [] (fun wx=>∃(u2:Value) (l2:List Int),Hid (R1 B wx wR.heap.size ge gt n s u1 u2 l1 l2/\zb wR wx/\l2.length<=2))
        case first=>
         by_cases D:zz=0
         ·have i5:(zz==0)=true:=by rw [beq_iff_eq];exact D
          have HZ:=zh D;clear D
          go_wp2_with fail
          refine r20_wp b9 b3 e9 (fun c a a' W he h=>(show a'.defers=[]/\An w (.panicked c) W from ⟨he ▸ (show a.defers=[]/\An w (.panicked c) W from h).1,(show a.defers=[]/\An w (.panicked c) W from h).2⟩)) fun u2 l2 W h9 x100 x101 x102 x103 x104 x105 x106 x107=>?_
          go_wp2_with fail
          go_meet;exact ⟨_,_,h9⟩
         ·have i5:(zz==0)=false:=by rw [DE];exact D
          have HZ:=zh D;clear D
          go_wp2_with fail
          go_meet;exact ⟨_,[x2],b9.out,b3.out,by simp⟩
        case rest=>
         obtain ⟨u2,l2,f1⟩:=hcut;have t8:=zh f1.out.1;have j5:=zh f1.out.2.1;have j8:=zh f1.out.2.2;obtain ⟨w7,rfl⟩:∃w7:World,w7=wc:=⟨_,rfl⟩;have i7:Hid (OwnB w7 w7.heap.size (.slice none 0 0) []):=World.ownsRow_nil _ _ _ _;clear f1 b9 b3
         go_wp2_with fail
         go_loopg [10,11] n (fun gk vf v wr=>∃(k:Nat) (lf:List Bool),v=.int .i64 k/\k<=n/\gk=n - k/\lf.length=k/\Hid (R1 B wr wR.heap.size ge gt n s u1 u2 l1 l2/\zb wR wr/\OwnB wr w7.heap.size vf lf/\w7.heap.size<=wr.heap.size))
         case atStart=>exact ⟨0,[],rfl,DF _,rfl,rfl,t8.out,j5.out,i7.out,Dq _⟩
         clear i7
         case round=>
          obtain ⟨k,lf,rfl,U,rfl,p9,hQ⟩:=hrel;have e4:=zh j5.out.size;have e1:=zh p9;have x5:lf.length<=16:=by omega
          clear p9;rcases DO k n with d6 | hge2
          ·skip
           go_wp2_with fail
           refine (zG 6 hQ.out.1.dr (by omega) (by omega)).mono ?_;rintro e wd ⟨x,rfl,f2,i2,n9,Q⟩;have a2:=zh (hQ.out.1.drawn n9 Q);have g0:=zh (hQ.out.1.drawnExt hQ.out.2.1 Q)
           have a1:Hid (OwnB wd w7.heap.size u10 lf):=Ai hQ.out.2.2.1 fun g G=>Q.block g (World.ownsRow.lt hQ.out.2.2.1 g G).2 (fun e=>by
            obtain ⟨cs,hb⟩:=hQ.out.1.dr.blk;injection e with e;subst e;exact zd hQ.out.2.2.1 hb (by decide) G)
           have x7:w7.heap.size<=wd.heap.size:=Dt hQ.out.2.2.2 Q.size;clear n9 Q;obtain ⟨Af,cf,rfl,C1,-⟩:=a1.out.bools;have C4:(0:Int)<=(k:Int):=by omega
           have A6:wd.cell? ⟨gt,1,none⟩=some u1:=a2.out.tk.cell (k:=1) rfl;have A7:wd.cell? ⟨gt,2,none⟩=some u2:=a2.out.tk.cell (k:=2) rfl;by_cases hx:0<x
           ·have y9:decide (0<x)=true:=Du hx
            go_wp2_with (at_builtin;refine wpList_append_own_at _ rfl _ _ 29 rfl w7.heap.size 4 iB (.bool false) 1 1 Tryz.underlying29 BF.out BZ0.out BZ1.out BZ2.out rfl (by decide) (.slice Af lf.length cf) lf.length _ rfl (World.ownsRow.alloc a1.out _) ⟨wd.heap.size,0,none⟩ 1 1 [.bool true] rfl rfl (cell_one_new _ _ _) (by simp [Value.oneCell']) (by unfold maxLen;omega) (by omega) (by simp;omega) ?_)
            intro v' w9 d G _ K;obtain ⟨V,O⟩:=a2.out.grownB a1.out e4.out G;have c6:=zh V;have b4:Hid (zb wR w9):=Below.trans g0.out O;have c8:Hid (w7.heap.size<=w9.heap.size):=by have:=G.size;simp at this;show _<=_;omega
            have b7:Hid (OwnB w9 w7.heap.size v' (lf++[true])):=OwnB.app d;clear V O d G K
            go_wp2_with fail
            go_roundg (n - (k+1))
            case measure=>omega
            case rel=>exact ⟨k+1,lf++[true],by go_num,d6,rfl,by have:=e1.out;simp;omega,c6.out,b4.out,b7.out,c8.out⟩
           ·have y9:decide (0<x)=false:=Dv hx
            go_wp2_with fail
            refine (has_calls (k:Int) wd (Aw.of_own a2.out.o1) (by have:=j7.out;omega)).mono ?_;rintro e w' ⟨rfl,rfl⟩;generalize decide ((k:Int)∈l1)=b1
            cases b1 with
            | true=>
             go_wp2_with (at_builtin;refine wpList_append_own_at _ rfl _ _ 29 rfl w7.heap.size 4 iB (.bool false) 1 1 Tryz.underlying29 BF.out BZ0.out BZ1.out BZ2.out rfl (by decide) (.slice Af lf.length cf) lf.length _ rfl (World.ownsRow.alloc a1.out _) ⟨wd.heap.size,0,none⟩ 1 1 [.bool true] rfl rfl (cell_one_new _ _ _) (by simp [Value.oneCell']) (by unfold maxLen;omega) (by omega) (by simp;omega) ?_)
             intro v' w9 d G _ K;obtain ⟨V,O⟩:=a2.out.grownB a1.out e4.out G;have c6:=zh V;have b4:Hid (zb wR w9):=Below.trans g0.out O;have c8:Hid (w7.heap.size<=w9.heap.size):=by have:=G.size;simp at this;show _<=_;omega
             have b7:Hid (OwnB w9 w7.heap.size v' (lf++[true])):=OwnB.app d;clear V O d G K
             go_wp2_with fail
             go_roundg (n - (k+1))
             case measure=>omega
             case rel=>exact ⟨k+1,lf++[true],by go_num,d6,rfl,by have:=e1.out;simp;omega,c6.out,b4.out,b7.out,c8.out⟩
            | false=>
             go_wp2_with fail
             refine (has_calls (k:Int) wd (Aw.of_own a2.out.o2) (by have:=j8.out;omega)).mono ?_;rintro e w' ⟨rfl,rfl⟩;generalize decide ((k:Int)∈l2)=b2
             go_wp2_with (at_builtin;refine wpList_append_own_at _ rfl _ _ 29 rfl w7.heap.size 4 iB (.bool false) 1 1 Tryz.underlying29 BF.out BZ0.out BZ1.out BZ2.out rfl (by decide) (.slice Af lf.length cf) lf.length _ rfl (World.ownsRow.alloc a1.out _) ⟨wd.heap.size,0,none⟩ 1 1 [.bool b2] rfl rfl (cell_one_new _ _ _) (by simp [Value.oneCell']) (by unfold maxLen;omega) (by omega) (by simp;omega) ?_)
             intro v' w9 d G _ K;obtain ⟨V,O⟩:=a2.out.grownB a1.out e4.out G;have c6:=zh V;have b4:Hid (zb wR w9):=Below.trans g0.out O;have c8:Hid (w7.heap.size<=w9.heap.size):=by have:=G.size;simp at this;show _<=_;omega
             have b7:Hid (OwnB w9 w7.heap.size v' (lf++[b2])):=OwnB.app d;clear V O d G K
             go_wp2_with fail
             go_roundg (n - (k+1))
             case measure=>omega
             case rel=>exact ⟨k+1,lf++[b2],by go_num,d6,rfl,by have:=e1.out;simp;omega,c6.out,b4.out,b7.out,c8.out⟩
          ·skip
           have p7:k=n:=by omega
           have s7:=zh p7;have A8:decide (k<n)=false:=Dv (by omega);have A9:decide ((k:Int)<(n:Int))=false:=Dv (by omega);have B0:¬ k<n:=by omega
           clear p7 hge2;have e5:=E.out.1.ext hQ.out.2.1;have m5:wr.cell? ⟨gm,5,none⟩=some vT:=e5.mz.cell (k:=5) rfl;have hf:=fun j=>e5.mz.frozen j
           have c9:∀j,wr.frozen? ⟨gm,j,none⟩=false:=hf;obtain ⟨A1,c1,rfl,-⟩:=AV hQ.out.1.o1;obtain ⟨A2,c2,rfl,-⟩:=AV hQ.out.1.o2;have t0:wr.cell? ⟨gt,0,none⟩=some (.string s):=hQ.out.1.tk.cell (k:=0) rfl;have t1:wr.cell? ⟨gt,1,none⟩=some (.slice A1 l1.length c1):=hQ.out.1.tk.cell (k:=1) rfl;have t2:wr.cell? ⟨gt,2,none⟩=some (.slice A2 l2.length c2):=hQ.out.1.tk.cell (k:=2) rfl;have a0:=zh e5;clear e5 hf
           go_wp2_with (at_builtin;refine wpList_append_own_at _ rfl _ _ 30 rfl B 113 iT (.agg #[.string ⟨#[]⟩,.slice none 0 0,.slice none 0 0]) 3 64 Tryz.underlying30 TF.out TZ0.out TZ1.out TZ2.out rfl (by decide) vT t _ rfl (a0.out.T.alloc _) ⟨wr.heap.size,0,none⟩ 1 1 [.string s,.slice A1 l1.length c1,.slice A2 l2.length c2] rfl rfl (cells3n _ _ _ _ _) (by simp [Value.oneCell']) (by unfold maxLen;omega) (by omega) (by have:=a0.out.hB;simp;omega) ?_)
           intro v' w9 d G _ K;obtain ⟨gv,cv,rfl,-,-⟩:=World.ownsRow.form d (by omega);obtain ⟨l0,l7,m6⟩:=a0.out.end1 hQ.out.1 j7.out j8.out hQ.out.2.2.1 d G;have o:w9.heap[gm]?=wr.heap[gm]?:=(G.block gm (by have:=za a0.out.mz;simp;omega) (fun e=>zd a0.out.T a0.out.mz (by decide) e.symm)).trans (DK _ _ _ (za a0.out.mz));have n0:w9.cell? ⟨gm,5,none⟩=some vT:=(DG (a:=⟨gm,5,none⟩) o).trans m5;have o7:w9.frozen? ⟨gm,5,none⟩=false:=(DQ (a:=⟨gm,5,none⟩) o).trans (c9 5);have I:=zh l0;have k2:=zh l7;have j2:Hid (zb w1 (w9.setCell ⟨gm,5,none⟩ (.slice (some ⟨gv,0,none⟩) (t+1) cv))):=Below.trans (zb.trans E.out.2 hQ.out.2.1) (HB.out ▸ m6);clear l0 l7 m6 d G K o m5 c9 t0 t1 t2;go_upto_region 27 with fail;clear n0 o7;generalize w9.setCell ⟨gm,5,none⟩ (.slice (some ⟨gv,0,none⟩) (t+1) cv)=wv at*;obtain ⟨Af,cf,rfl,-,-⟩:=k2.out.bools;have m3:wv.cell? ⟨gm,3,none⟩=some vF:=I.out.mz.cell (k:=3) rfl;have c9:∀j,wv.frozen? ⟨gm,j,none⟩=false:=fun j=>I.out.mz.frozen j
           have s8:Hid (∀g,(Value.slice Af lf.length cf).ownBlock=some g->g<wr.heap.size):=fun g G=>(World.ownsRow.lt hQ.out.2.2.1 g G).2
           go_wp2_with (at_builtin;refine wpList_append_own_at _ rfl _ _ 28 rfl B 29 iL (.slice none 0 0) 1 24 Tryz.underlying28 LF.out LZ0.out LZ1.out LZ2.out rfl (by decide) vF t _ rfl (I.out.F.alloc _) ⟨wv.heap.size,0,none⟩ 1 1 [.slice Af lf.length cf] rfl rfl (cell_one_new _ _ _) (by simp [Value.oneCell']) (by unfold maxLen;omega) (by omega) (by have:=I.out.hB;simp;omega) ?_)
           intro v2 w9 d G _ K;obtain ⟨gv2,cv2,rfl,-,-⟩:=World.ownsRow.form d (by omega);obtain ⟨l3,m7⟩:=I.out.end2 k2.out (e1.out.trans s7.out) (Dt h3 e4.out) s8.out d G;have o:w9.heap[gm]?=wv.heap[gm]?:=(G.block gm (by have:=za I.out.mz;simp;omega) (fun e=>zd I.out.F I.out.mz (by decide) e.symm)).trans (DK _ _ _ (za I.out.mz));have n0:w9.cell? ⟨gm,3,none⟩=some vF:=(DG (a:=⟨gm,3,none⟩) o).trans m3;have o7:w9.frozen? ⟨gm,3,none⟩=false:=(DQ (a:=⟨gm,3,none⟩) o).trans (c9 3);have s9:=zh l3;have j4:Hid (zb w1 (w9.setCell ⟨gm,3,none⟩ (.slice (some ⟨gv2,0,none⟩) (t+1) cv2))):=Below.trans j2.out (HB.out ▸ m7);clear l3 m7 d G K o m3 c9
           go_wp2_with fail
           go_roundg (many - (t+1))
           case measure=>omega
           case rel=>exact ⟨t+1,_,_,_,_,by go_num,h2,rfl,s9.out,j4.out⟩
    ·skip
     have y6:t=many:=by omega
     subst y6;have B3:decide (t<t)=false:=Dv (by omega);have k7:0<t:=by omega
     obtain ⟨gT,cT,rfl,p3,-⟩:=World.ownsRow.form E.out.1.T k7;obtain ⟨gF,cF,rfl,p2,-⟩:=World.ownsRow.form E.out.1.F k7;have HcT:=zh (Be E.out.1.T);have HcF:=zh (Be E.out.1.F);clear hge;have l4:=zh (E.out.1);have l9:=zh (E.out.2);clear E
     go_wp2_with fail
     have l6:Hid (MS B wR wR.heap.size gm gd W H L n t t (.slice (some ⟨gF,0,none⟩) t cF) (.slice none 0 0) (.slice (some ⟨gT,0,none⟩) t cT) fs ts/\zb w1 wR):=⟨l4.out,l9.out⟩;clear l4 l9;refine loop12_wp HB p3 p2 HcT HcF e9 q2 l6 (fun c a a' W he h=>(show a'.defers=[]/\An w (.panicked c) W from ⟨he ▸ (show a.defers=[]/\An w (.panicked c) W from h).1,(show a.defers=[]/\An w (.panicked c) W from h).2⟩)) fun wA hA x13 x14 x143 x144 x145 x146 x147 x148 x149 x150 x151 x152 x153 x154 x155 x156 x157 x158 x159 x160 x161 x162 x163 x164 x165 x166 x167 x168 x169 x170 x171 x172 x173 x174 x175 x176 x177 x178 x179 x180 x181 x182 x183 x184 x185 x186 x187 x188 x189 x190 x191 x192 x193 x194 x195 x196 x197 x198 x199 x200 x201 x202 x203 x204 x205=>?_;clear l6;obtain ⟨a,w0⟩:=Ez t;subst w0
     go_wp2_with fail
     have hA0:=hA.out;obtain ⟨S,hS⟩:=Ez wA.heap.size;have k3:Hid (RU w1 B wA S gm gd W H L n a a (.slice (some ⟨gF,0,none⟩) a cF) (.slice none 0 0) (.slice (some ⟨gT,0,none⟩) a cT) fs ts []):=⟨HB.out,hS ▸ hA0.1.hB,hS ▸ hA0.1,World.ownsRow_nil _ _ _ _,hA0.2⟩;clear hA0 hS hA
     go_loopg [15] n (fun gk v wr=>∃(i:Nat) (vU:Value) (us:List Bool),v=.int .i64 i/\i<=n/\gk=n - i/\us.length=i/\Hid (RU w1 B wr S gm gd W H L n a a (.slice (some ⟨gF,0,none⟩) a cF) vU (.slice (some ⟨gT,0,none⟩) a cT) fs ts us))
     case atStart=>exact ⟨0,_,[],rfl,DF _,rfl,rfl,k3.out⟩
     clear k3
     case round=>
      obtain ⟨i,vU,us,rfl,hi,rfl,h5,hQ⟩:=hrel;obtain ⟨wU,rfl⟩:∃wU:World,wU=wr:=⟨_,rfl⟩;rcases DO i n with hin | hin
      ·have p5:decide (i<n)=true:=Du hin;have p6:decide ((i:Int)<(n:Int))=true:=Du (by omega);have B7:Hid (zb w1 wU):=hQ.out.ex;have q8:us.length<=16:=by omega
       have v1:=zh h5;clear h5;go_upto_region 42 with fail;refine r42_wp hQ q8 (fun c a a' W he h=>(show a'.defers=[]/\An w (.panicked c) W from ⟨he ▸ (show a.defers=[]/\An w (.panicked c) W from h).1,(show a.defers=[]/\An w (.panicked c) W from h).2⟩)) fun vU' x w2 h9 x211 x212 x213 x214 x215 x216 x217 x218=>?_;have t7:=zh h9;clear h9
       go_wp2_with fail
       go_roundg (n - (i+1))
       case measure=>omega
       case rel=>exact ⟨i+1,_,_,by go_num,hin,rfl,by rw [Dz,v1.out];rfl,t7.out⟩
      ·have p5:decide (i<n)=false:=Dv (by omega);have p6:decide ((i:Int)<(n:Int))=false:=Dv (by omega);have q9:us.length=n:=by omega
       obtain ⟨Au,cu,r2,-,-⟩:=OwnB.bools hQ.out.ow;rw [h5] at r2;subst r2;have a3:=k4.out;obtain ⟨mm,q3,l5⟩:=RU.maze hQ.out a3.1 a3.2.1 a3.2.2 HN.out q2 q9;have t6:=zh q3;have t5:=zh l5;have J:ze wU w.heap.size 32 #[.int .i64 0,.int .i64 0,.int .i64 0,.slice none 0 0,.slice none 0 0,.slice none 0 0]:=c7.out.1.ext hQ.out.ex;have z0:wU.cell? ⟨w.heap.size,0,none⟩=some (.int .i64 0):=J.cell (k:=0) rfl;have z1:wU.cell? ⟨w.heap.size,1,none⟩=some (.int .i64 0):=J.cell (k:=1) rfl;have z2:wU.cell? ⟨w.heap.size,2,none⟩=some (.int .i64 0):=J.cell (k:=2) rfl;have z3:wU.cell? ⟨w.heap.size,3,none⟩=some (.slice none 0 0):=J.cell (k:=3) rfl;have z4:wU.cell? ⟨w.heap.size,4,none⟩=some (.slice none 0 0):=J.cell (k:=4) rfl;have z5:wU.cell? ⟨w.heap.size,5,none⟩=some (.slice none 0 0):=J.cell (k:=5) rfl;have hfz:∀j,wU.frozen? ⟨w.heap.size,j,none⟩=false:=fun j=>J.frozen j
       have m0:wU.cell? ⟨gm,0,none⟩=some (.int .i64 W):=hQ.out.ms.mz.cell (k:=0) rfl;have m1:wU.cell? ⟨gm,1,none⟩=some (.int .i64 H):=hQ.out.ms.mz.cell (k:=1) rfl;have m2:wU.cell? ⟨gm,2,none⟩=some (.int .i64 L):=hQ.out.ms.mz.cell (k:=2) rfl;have m3:wU.cell? ⟨gm,3,none⟩=some (.slice (some ⟨gF,0,none⟩) a cF):=hQ.out.ms.mz.cell (k:=3) rfl;have m4:wU.cell? ⟨gm,4,none⟩=some (.slice Au i cu):=hQ.out.ms.mz.cell (k:=4) rfl;have m5:wU.cell? ⟨gm,5,none⟩=some (.slice (some ⟨gT,0,none⟩) a cT):=hQ.out.ms.mz.cell (k:=5) rfl;have r8:=zh J;have s6:Hid (zb w1 wU):=hQ.out.ex;clear a3 q3 l5 J q9 hin hQ
       go_wp2_with fail
       refine case_fin (P:=fun W=>bodyPost Tryz.prog Tryz.f43 (An w) Exit.ret _ W) (g2:=w.heap.size) ?_ r8.out;intro WZ a6 v6 U;have y0:WZ.cell? ⟨w.heap.size,0,none⟩=some (.int .i64 W):=a6.cell (k:=0) rfl;have y1:WZ.cell? ⟨w.heap.size,1,none⟩=some (.int .i64 H):=a6.cell (k:=1) rfl;have y2:WZ.cell? ⟨w.heap.size,2,none⟩=some (.int .i64 L):=a6.cell (k:=2) rfl;have y3:WZ.cell? ⟨w.heap.size,3,none⟩=some (.slice (some ⟨gF,0,none⟩) a cF):=a6.cell (k:=3) rfl;have y4:WZ.cell? ⟨w.heap.size,4,none⟩=some (.slice Au i cu):=a6.cell (k:=4) rfl;have y5:WZ.cell? ⟨w.heap.size,5,none⟩=some (.slice (some ⟨gT,0,none⟩) a cT):=a6.cell (k:=5) rfl;have z6:zb w wU:=a9.out.trans s6.out;have x6:=t6.out.keep (w':=WZ) (fun b hb h2=>U b h2 (by have:=c7.out.2;have:=HB.out;omega))
       exact El (v:=.agg #[.int .i64 W,.int .i64 H,.int .i64 L,.slice (some ⟨gF,0,none⟩) a cF,.slice Au i cu,.slice (some ⟨gT,0,none⟩) a cT]) (by simp [results,Tryz.results43,go_sem,y0,y1,y2,y3,y4,y5]) rfl
        ⟨_,mm,rfl,Below.trans z6 v6,x6.weaken (fun b hb=>by have:=c7.out.2;have:=HB.out;omega),t5.out⟩
end
section
open Go.RowKit
def BestK (F:List (Int×Int)) (fm:List Int) (k:Nat) (b:Option Int):Prop:=match b with
 | none=>∀n∈fm,0<=n->n<k->F.lookup n=none
 | some r=>r∈fm/\0<=r/\r<k/\∃d,F.lookup r=some d/\∀n∈fm,0<=n->n<k->∀e,F.lookup n=some e->d<e\/(d=e/\r<=n)
theorem BestK.zero (F:List (Int×Int)) (fm:List Int):BestK F fm 0 none:=fun n _ h0 d=>by omega
theorem BestK.skip (h:BestK F fm k b) (hs:(k:Int)∉fm\/F.lookup (k:Int)=none):BestK F fm (k+1) b:=by
 cases b with
 | none=>
  intro n o h0 B;by_cases z:n=(k:Int)
  ·subst z;exact hs.resolve_left fun h=>h o
  ·exact h n o h0 (by omega)
 | some r=>
  obtain ⟨B,D,I,d,E,G⟩:=h;refine ⟨B,D,by omega,d,E,fun n o h0 J e he=>?_⟩;by_cases z:n=(k:Int)
  ·subst z;rcases hs with hs | hs
   ·exact absurd o hs
   ·rw [hs] at he;cases he
  ·exact G n o h0 (by omega) e he
theorem BestK.old {r d:Int} (h:BestK F fm k (some r)) (B:F.lookup r=some d) (I:F.lookup (k:Int)=some e) (J:d<=e):BestK F fm (k+1) (some r):=by
 obtain ⟨D,E,L,d',o,G⟩:=h;rw [B] at o;injection o with o;subst o;refine ⟨D,E,by omega,d,B,fun n K h0 M e' he=>?_⟩;by_cases z:n=(k:Int)
 ·subst z;rw [I] at he;injection he with he;omega
 ·exact G n K h0 (by omega) e' he
theorem BestK.new (h:BestK F fm k b) (hm:(k:Int)∈fm) (B:F.lookup (k:Int)=some e) (o:∀r d,b=some r->F.lookup r=some d->e<d):BestK F fm (k+1) (some (k:Int)):=by
 refine ⟨hm,by omega,by omega,e,B,fun n D h0 L e' he=>?_⟩;by_cases z:n=(k:Int)
 ·subst z;rw [B] at he;injection he with he;omega
 ·cases b with
  | none=>rw [h n D h0 (by omega)] at he;cases he
  | some r=>
   obtain ⟨I,J,K,d,E,G⟩:=h;have:=o r d rfl E;have:=G n D h0 (by omega) e' he;omega
theorem BestK.all (h:BestK F fm k b) (J:∀n∈fm,0<=n/\n<k):bestL F fm none=b:=by
 cases E:bestL F fm none with
 | none=>
  obtain ⟨-,o⟩:=bestL_none E
  cases b with
  | none=>rfl
  | some r=>
   obtain ⟨z,-,-,d,B,-⟩:=h;rw [o r z] at B;cases B
 | some s=>
  obtain ⟨d,z,o,-,G⟩:=BM (b:=none) (fun c I=>by cases I) E;have o:=o.resolve_left (by simp);obtain ⟨B,D⟩:=J s o
  cases b with
  | none=>rw [h s o B D] at z;cases z
  | some r=>
   obtain ⟨a1,a2,a3,e,a4,a5⟩:=h;have b1:=a5 s o B D d z;have b2:=G r e a1 a4;congr 1;omega
end
section
open Go.RowKit
attribute [local go_sem ↓] Go.wp_at_zero Go.wp_at_succ
structure TK (w1 wr:World) (gt n:Nat) (tk:List Int):Prop where
 ext:zb w1 wr
 lo:w1.heap.size<=gt
 tak:wr.rowIs gt 4 n (memF tk)
section
variable {w1 wr w':World} {gt n:Nat} {tk:List Int}
theorem TK.more (h:TK w1 wr gt n tk) (d:zb wr w'):TK w1 w' gt n tk:=⟨h.ext.trans d,h.lo,h.tak.of_block (d.block _ h.tak.lt)⟩
theorem TK.set {x:Int} (h:TK w1 wr gt n tk) (d:0<=x):TK w1 (wr.setCell ⟨gt,x.toNat,none⟩ (.bool true)) gt n (tk++[x]):=
 ⟨h.ext.setCell (p:=⟨gt,x.toNat,none⟩) h.lo _,h.lo,(h.tak.set x.toNat (.bool true)).congr fun j _=>memF_set d j⟩
theorem TK.skip {x:Int} (h:TK w1 wr gt n tk) (o:¬ (0<=x/\x<n)):TK w1 wr gt n (tk++[x]):=⟨h.ext,h.lo,h.tak.congr fun j d=>memF_more o d⟩
theorem TK.cell (h:TK w1 wr gt n tk) {x:Int} (h0:0<=x) (d:x<n):wr.cell? ⟨gt,x.toNat,none⟩=some (.bool (decide (x∈tk)))/\wr.frozen? ⟨gt,x.toNat,none⟩=false:=by
 refine ⟨?_,h.tak.frozen _⟩;rw [h.tak.cell (by omega)];unfold memF;rw [Int.toNat_of_nonneg h0]
end
end
end Go.Proofs.YtnmkmhpgnpojbaaGreatDoor
