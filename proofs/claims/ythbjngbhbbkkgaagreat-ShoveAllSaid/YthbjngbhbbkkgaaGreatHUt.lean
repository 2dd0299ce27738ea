/- RtMy RtEx RtMk -/
import Derived.Test.YthbjngbhbbkkgaaGreatHUa
import Derived.Test.YthbjngbhbbkkgaaGreatHUb
import Derived.Test.YthbjngbhbbkkgaaGreatHUc
import Derived.Test.YthbjngbhbbkkgaaGreatHUd
import Derived.Test.YthbjngbhbbkkgaaGreatHUe
import Derived.Test.YthbjngbhbbkkgaaGreatHUf
import Derived.Test.YthbjngbhbbkkgaaGreatHUg
import Derived.Test.YthbjngbhbbkkgaaGreatHUh
import Derived.Test.YthbjngbhbbkkgaaGreatHUi
import Derived.Test.YthbjngbhbbkkgaaGreatHUj
import Derived.Test.YthbjngbhbbkkgaaGreatHUo
import Derived.Test.YthbjngbhbbkkgaaGreatHUp
import Derived.Test.YthbjngbhbbkkgaaGreatHUr
import Derived.Test.YthbjngbhbbkkgaaGreatHUs
import Derived.Deep.LoopGhost
import Derived.Deep.AppendLies
import Derived.StillTailTactics
set_option linter.unusedVariables false
set_option linter.unusedSimpArgs false
set_option maxRecDepth 100000
set_option maxHeartbeats 16000000
namespace Go.Proofs.YthbjngbhbbkkgaaGreat
open Go.RowKit
attribute [local go_sem ↓] Go.wp_at_zero Go.wp_at_succ
def startsReg (n:Nat):Code→Bool
 | .region id _ _=>decide (id=n)
 | .seq a _=>startsReg n a
 | .block _ c=>startsReg n c
 | _=>false
def zcm (n:Nat):Code→Option Code
 | .loop c=>if startsReg n c=true then some (.loop c) else zcm n c
 | .seq a b=>match zcm n a with
  | some c=>some c
  | none=>zcm n b
 | .cond _ a b=>match zcm n a with
  | some c=>some c
  | none=>zcm n b
 | .block _ c=>zcm n c
 | _=>none
noncomputable def code12:Code:=(Tryz.f31.body.bind (zcm 29)).getD .skip
theorem loop12_wp {w1 wr0:World} {Q:Exit→Act→World→Prop} {B gm gd gF gT cF cT n t:Nat} {W H L:Int} {fs ts:List Value} {u0 u1 u2 u3 u7 u8 u9 u10 u11 u13 u14 u15 u16 u17 u18 u19 u20 u21 u22 u23 u24 u25 u26 u27 u28 u29 u30 u31 u32 u33 u34 u35 u36 u37 u38 u39 u40 u41 u42 u43 u44 u45 u46 u47 u48 u49 u50 u51 u52 u53 u54 u55 u56 u57 u58 u59 u60 u61 u62 u63 u64 u65 u66 u67 u68 u69 u70 u71 u72 u73 u74 u75 u76 u77 u78 u79 u80 u81 u82 u83 u84 u85 u86 u87 u88 u89 u90 u91 u92 u93 u94 u95 u96 u97 u98 u99 u100 u101 u102 u103 u104 u105 u106 u107 u108 u109 u110 u111 u112 u113 u114 u115 u116 u117 u118 u119 u120 u121 u122 u123 u124 u125 u126 u127 u128 u129 u130 u131 u132 u133 u134 u135 u136 u137 u138 u139 u140 u141 u142 u143 u144 u145 u146 u147 u148 u149 u150 u151 u152 u153 u154 u155 u156 u157 u158 u159 u160 u161 u162 u163 u164 u165 u166 u167 u168 u169 u170 u171 u172 u173 u174 u175 u176 u177 u178 u179 u180 u181 u182 u183 u184 u185 u186 u187 u188 u189 u190 u191 u192 u193 u194 u195 u196 u197 u198 u199 u200 u201 u202 u203 u204 u205 u206 u207 u208 u209 u210 u211 u212 u213 u214 u215 u216 u217 u218 u219:Value}
  (HB:Hid (B=w1.heap.size)) (hgTB:B≤gT) (hgFB:B≤gF) (HcT:Hid (t≤cT)) (HcF:Hid (t≤cF)) (hn2:2≤n∧n≤16) (hm3:1≤t∧t≤3)
  (hA0:Hid (MS B wr0 wr0.heap.size gm gd W H L n t t (.slice (some ⟨gF,0,none⟩) t cF) (.slice none 0 0) (.slice (some ⟨gT,0,none⟩) t cT) fs ts∧Ext w1 wr0))
  (hP:∀c (a a':Act) w,a.defers=a'.defers→Q (.panic c) a w→Q (.panic c) a' w)
  (hexit:∀(w2:World),Hid (MS B w2 w2.heap.size gm gd W H L n t t (.slice (some ⟨gF,0,none⟩) t cF) (.slice none 0 0) (.slice (some ⟨gT,0,none⟩) t cT) fs ts∧Ext w1 w2)→∀(x13 x14 x143 x144 x145 x146 x147 x148 x149 x150 x151 x152 x153 x154 x155 x156 x157 x158 x159 x160 x161 x162 x163 x164 x165 x166 x167 x168 x169 x170 x171 x172 x173 x174 x175 x176 x177 x178 x179 x180 x181 x182 x183 x184 x185 x186 x187 x188 x189 x190 x191 x192 x193 x194 x195 x196 x197 x198 x199 x200 x201 x202 x203 x204 x205:Value),Q (.exit 4) ⟨(u0 :: u1 :: u2 :: u3 :: Value.pointer (some ⟨gm,0,none⟩) :: Value.int .i64 (n:Nat) :: Value.int .i64 (t:Nat) :: u7 :: u8 :: u9 :: u10 :: u11 :: Value.int .i64 (t:Nat) :: x13 :: x14 :: u15 :: u16 :: u17 :: u18 :: u19 :: u20 :: u21 :: u22 :: u23 :: u24 :: u25 :: u26 :: u27 :: u28 :: u29 :: u30 :: u31 :: u32 :: u33 :: u34 :: u35 :: u36 :: u37 :: u38 :: u39 :: u40 :: u41 :: u42 :: u43 :: u44 :: u45 :: u46 :: u47 :: u48 :: u49 :: u50 :: u51 :: u52 :: u53 :: u54 :: u55 :: u56 :: u57 :: u58 :: u59 :: u60 :: u61 :: u62 :: u63 :: u64 :: u65 :: u66 :: u67 :: u68 :: u69 :: u70 :: u71 :: u72 :: u73 :: u74 :: u75 :: u76 :: u77 :: u78 :: u79 :: u80 :: u81 :: u82 :: u83 :: u84 :: u85 :: u86 :: u87 :: u88 :: u89 :: u90 :: u91 :: u92 :: u93 :: u94 :: u95 :: u96 :: u97 :: u98 :: u99 :: u100 :: u101 :: u102 :: u103 :: u104 :: u105 :: u106 :: u107 :: u108 :: u109 :: u110 :: u111 :: u112 :: u113 :: u114 :: u115 :: u116 :: u117 :: u118 :: u119 :: u120 :: u121 :: u122 :: u123 :: u124 :: u125 :: u126 :: u127 :: u128 :: u129 :: u130 :: u131 :: u132 :: u133 :: u134 :: u135 :: u136 :: u137 :: u138 :: u139 :: u140 :: u141 :: u142 :: x143 :: x144 :: x145 :: x146 :: x147 :: x148 :: x149 :: x150 :: x151 :: x152 :: x153 :: x154 :: x155 :: x156 :: x157 :: x158 :: x159 :: x160 :: x161 :: x162 :: x163 :: x164 :: x165 :: x166 :: x167 :: x168 :: x169 :: x170 :: x171 :: x172 :: x173 :: x174 :: x175 :: x176 :: x177 :: x178 :: x179 :: x180 :: x181 :: x182 :: x183 :: x184 :: x185 :: x186 :: x187 :: x188 :: x189 :: x190 :: x191 :: x192 :: x193 :: x194 :: x195 :: x196 :: x197 :: x198 :: x199 :: x200 :: x201 :: x202 :: x203 :: x204 :: x205 :: u206 :: u207 :: u208 :: u209 :: u210 :: u211 :: u212 :: u213 :: u214 :: u215 :: u216 :: u217 :: u218 :: u219 :: []).toArray,[]⟩ w2):
  code12.wp Tryz.prog Q ⟨(u0 :: u1 :: u2 :: u3 :: Value.pointer (some ⟨gm,0,none⟩) :: Value.int .i64 (n:Nat) :: Value.int .i64 (t:Nat) :: u7 :: u8 :: u9 :: u10 :: u11 :: Value.int .i64 0 :: u13 :: u14 :: u15 :: u16 :: u17 :: u18 :: u19 :: u20 :: u21 :: u22 :: u23 :: u24 :: u25 :: u26 :: u27 :: u28 :: u29 :: u30 :: u31 :: u32 :: u33 :: u34 :: u35 :: u36 :: u37 :: u38 :: u39 :: u40 :: u41 :: u42 :: u43 :: u44 :: u45 :: u46 :: u47 :: u48 :: u49 :: u50 :: u51 :: u52 :: u53 :: u54 :: u55 :: u56 :: u57 :: u58 :: u59 :: u60 :: u61 :: u62 :: u63 :: u64 :: u65 :: u66 :: u67 :: u68 :: u69 :: u70 :: u71 :: u72 :: u73 :: u74 :: u75 :: u76 :: u77 :: u78 :: u79 :: u80 :: u81 :: u82 :: u83 :: u84 :: u85 :: u86 :: u87 :: u88 :: u89 :: u90 :: u91 :: u92 :: u93 :: u94 :: u95 :: u96 :: u97 :: u98 :: u99 :: u100 :: u101 :: u102 :: u103 :: u104 :: u105 :: u106 :: u107 :: u108 :: u109 :: u110 :: u111 :: u112 :: u113 :: u114 :: u115 :: u116 :: u117 :: u118 :: u119 :: u120 :: u121 :: u122 :: u123 :: u124 :: u125 :: u126 :: u127 :: u128 :: u129 :: u130 :: u131 :: u132 :: u133 :: u134 :: u135 :: u136 :: u137 :: u138 :: u139 :: u140 :: u141 :: u142 :: u143 :: u144 :: u145 :: u146 :: u147 :: u148 :: u149 :: u150 :: u151 :: u152 :: u153 :: u154 :: u155 :: u156 :: u157 :: u158 :: u159 :: u160 :: u161 :: u162 :: u163 :: u164 :: u165 :: u166 :: u167 :: u168 :: u169 :: u170 :: u171 :: u172 :: u173 :: u174 :: u175 :: u176 :: u177 :: u178 :: u179 :: u180 :: u181 :: u182 :: u183 :: u184 :: u185 :: u186 :: u187 :: u188 :: u189 :: u190 :: u191 :: u192 :: u193 :: u194 :: u195 :: u196 :: u197 :: u198 :: u199 :: u200 :: u201 :: u202 :: u203 :: u204 :: u205 :: u206 :: u207 :: u208 :: u209 :: u210 :: u211 :: u212 :: u213 :: u214 :: u215 :: u216 :: u217 :: u218 :: u219 :: []).toArray,[]⟩ wr0:=by
 have hM3:=zh hA0.out.1;have hX3:=zh hA0.out.2;clear hA0;have HEXIT:=zh hexit;clear hexit
 conv=>arg 2;whnf
 go_loopg [12] t (fun gk v wr=>∃(a:Nat),v=.int .i64 a∧a≤t∧gk=t - a∧Hid (MS B wr wr.heap.size gm gd W H L n t t (.slice (some ⟨gF,0,none⟩) t cF) (.slice none 0 0) (.slice (some ⟨gT,0,none⟩) t cT) fs ts∧Ext w1 wr))
 case atStart=>exact ⟨0,rfl,Nat.zero_le _,rfl,hM3.out,hX3.out⟩
 clear hM3 hX3
 case round=>
  obtain ⟨a,rfl,ha,rfl,hA⟩:=hrel;obtain ⟨wA,rfl⟩:∃wA:World,wA=wr:=⟨_,rfl⟩;rcases Nat.lt_or_ge a t with halt | hage
  ·skip
   go_wp2_with fail
   go_loopg [13] t (fun gk v wr=>∃(b:Nat),v=.int .i64 b∧b≤t∧gk=t - b∧Hid (MS B wr wr.heap.size gm gd W H L n t t (.slice (some ⟨gF,0,none⟩) t cF) (.slice none 0 0) (.slice (some ⟨gT,0,none⟩) t cT) fs ts∧Ext w1 wr))
   case atStart=>exact ⟨0,rfl,Nat.zero_le _,rfl,hA.out⟩
   clear hA
   case round=>
    obtain ⟨b,rfl,hb,rfl,hA⟩:=hrel;obtain ⟨wB,rfl⟩:∃wB:World,wB=wr:=⟨_,rfl⟩;rcases Nat.lt_or_ge b t with hblt | hbge
    ·go_wp2_with fail
     go_loopg [14] n (fun gk v wr=>∃(k:Nat),v=.int .i64 k∧k≤n∧gk=n - k∧Hid (MS B wr wr.heap.size gm gd W H L n t t (.slice (some ⟨gF,0,none⟩) t cF) (.slice none 0 0) (.slice (some ⟨gT,0,none⟩) t cT) fs ts∧Ext w1 wr))
     case atStart=>exact ⟨0,rfl,Nat.zero_le _,rfl,hA.out⟩
     clear hA
     case round=>
      obtain ⟨k,rfl,hk,rfl,hA⟩:=hrel;by_cases hgo:k<n∧b≠a
      ·obtain ⟨hkn,hba⟩:=hgo;have hk1:decide (k<n)=true:=decide_eq_true hkn;have hk2:decide ((k:Int)<(n:Int))=true:=decide_eq_true (by omega);have hb1:((b:Int)==(a:Int))=false:=by rw [beq_eq_false_iff_ne];omega
       have hb2:((b:Int) != (a:Int))=true:=by rw [bne_iff_ne];omega
       have hb3:(b==a)=false:=by rw [beq_eq_false_iff_ne];exact hba
       have hb4:(b != a)=true:=by rw [bne_iff_ne];exact hba
       have hb5:decide (b=a)=false:=decide_eq_false hba;have hcT:=HcT.out;have hcF:=HcF.out;have hb0:(0:Int)≤(b:Int)∧(b:Int)<(t:Int):=by omega
       have ha0:(0:Int)≤(a:Int)∧(a:Int)<(t:Int):=by omega
       have hk0:(0:Int)≤(k:Int)∧(k:Int)<(n:Int):=by omega
       have hm:=hA.out.1;have m5:wr.cell? ⟨gm,5,none⟩=some (.slice (some ⟨gT,0,none⟩) t cT):=hm.mz.cell (k:=5) rfl;have m3:wr.cell? ⟨gm,3,none⟩=some (.slice (some ⟨gF,0,none⟩) t cF):=hm.mz.cell (k:=3) rfl;obtain ⟨sb,u1,u2,e0,e1,e2,l1,l2,o1,o2,-,⟨k1,k2⟩,-,-⟩:=hm.td b hblt;obtain ⟨sa,v1,v2,d0,d1,d2,p1,p2,q1,q2,-,⟨j1,j2⟩,-,-⟩:=hm.td a halt;obtain ⟨uf,hf0,lf,hf1,hf2,-⟩:=hm.fd a halt;have hlp:0<lf.length:=by omega
       obtain ⟨gb,cb,rfl,hgbB,-⟩:=World.ownsRow.form hf1 hlp;have T1:wr.cell? ⟨gT,b*3+1,none⟩=some u1:=(hm.T.cellAt (b*3+1) (by omega)).trans e1;have T2:wr.cell? ⟨gT,b*3+2,none⟩=some u2:=(hm.T.cellAt (b*3+2) (by omega)).trans e2;have A1:wr.cell? ⟨gT,a*3+1,none⟩=some v1:=(hm.T.cellAt (a*3+1) (by omega)).trans d1;have A2:wr.cell? ⟨gT,a*3+2,none⟩=some v2:=(hm.T.cellAt (a*3+2) (by omega)).trans d2;have F1:wr.cell? ⟨gF,a,none⟩=some (.slice (some ⟨gb,0,none⟩) lf.length cb):=(hm.F.cellAt a (by omega)).trans hf0;have hcb:=zbv hf1;have hfb:∀j,wr.frozen? ⟨gb,j,none⟩=false:=fun j=>World.ownsRow.frozenAt hf1 j
       have hcc:∃bo,wr.cell? ⟨gb,k,none⟩=some (.bool bo):=by
        have h1:=World.ownsRow.cellAt hf1 k (by omega);rw [List.getElem?_map,List.getElem?_eq_getElem (by omega)] at h1;exact ⟨_,h1⟩
       obtain ⟨bo,hcc⟩:=hcc;have HBk:Hid (∃cs,Blk wr gb 4 cs):=own_blkB hf1;have HF2:=zh hf2;have hlf0:(k:Int)<(lf.length:Int):=by omega
       obtain ⟨b1,B1⟩:=hasB (k:Int) o1 (by omega);obtain ⟨b2,B2⟩:=hasB (k:Int) o2 (by omega);obtain ⟨b3,B3⟩:=hasB (k:Int) q1 (by omega);obtain ⟨b4,B4⟩:=hasB (k:Int) q2 (by omega);have HB1:=zh B1;have HB2:=zh B2;have HB3:=zh B3;have HB4:=zh B4;clear B1 B2 B3 B4 e0 e1 e2 o1 o2 d0 d1 d2 q1 q2 hf0 hf1 hf2 hm hba;go_upto_region 37 with fail;go_cut [180] from 163 to 180 (fun s wx=>(∃bb,s=.bool bb)∧wr=wx)
       case first=>
        go_wp2_with fail
        refine (HB1.out wr (Ext.refl _)).mono ?_;rintro e w' ⟨rfl,rfl⟩
        cases b1 with
        | true=>
         go_wp2_with fail
         go_meet;exact ⟨⟨_,rfl⟩,rfl⟩
        | false=>
         go_wp2_with fail
         refine (HB2.out wr (Ext.refl _)).mono ?_;rintro e w' ⟨rfl,rfl⟩
         go_wp2_with fail
         go_meet;exact ⟨⟨_,rfl⟩,rfl⟩
       case rest=>
        obtain ⟨⟨bb,rfl⟩,rfl⟩:=hcut
        cases bb with
        | true=>
         clear hk1 hk2 hb1 hb2 hb3 hb4 hb5 T1 T2 hlp hcT
         go_wp2_with fail
         have HF8:Hid (∀x,MS B ((wr.drew).setCell ⟨gb,k,none⟩ (.bool x)) ((wr.drew).setCell ⟨gb,k,none⟩ (.bool x)).heap.size gm gd W H L n t t (.slice (some ⟨gF,0,none⟩) t cF) (.slice none 0 0) (.slice (some ⟨gT,0,none⟩) t cT) fs ts∧Ext w1 ((wr.drew).setCell ⟨gb,k,none⟩ (.bool x))):=fun x=>hA.out.1.stored (k:=k) hA.out.2 HB.out HBk.out hgbB x
         obtain ⟨csT,hbT⟩:=own_blkB hA.out.1.T;obtain ⟨csF,hbF⟩:=own_blkB hA.out.1.F;obtain ⟨csB,hbB⟩:=HBk.out;have r5:=SB.rule hA.out.1.mz (by decide) m5;have r3:=SB.rule hA.out.1.mz (by decide) m3;have ra1:=SB.rule hbT (by decide) A1;have ra2:=SB.rule hbT (by decide) A2;have rf1:=SB.rule hbF (by decide) F1;have HSS:Hid (∀W x,SB wr W→SB wr (W.setCell ⟨gb,k,none⟩ x)):=fun W x h=>h.set hbB x
         clear HB1 HB2 m5 m3 A1 A2 F1 hbT hbF hbB;refine r38_wp (n:=n) ha0 hk0 hcF hcb hlf0 r5 r3 ra1 ra2 rf1 hcc hfb HB3 HB4 HSS (fun c a a' W he h=>hP c a a' W he h) (fun b' x181 x182 x183 x184 x185 x186 x187 x188 x189 x190 x191 x192 x193 x194 x195 x196 x197 x198 x199 x200 x201 x202 x203 x204 x205=>?_);have HF9:=zh (HF8.out b');clear hcc hfb HF8 r5 r3 ra1 ra2 rf1
         go_wp2_with fail
         go_roundg (n - (k+1))
         case measure=>omega
         case rel=>exact ⟨k+1,by go_num,hkn,rfl,HF9.out⟩
        | false=>
         go_wp2_with fail
         go_roundg (n - (k+1))
         case measure=>omega
         case rel=>exact ⟨k+1,by go_num,hkn,rfl,hA.out⟩
      ·have hno:decide (k<n)=false∨(decide (k<n)=true∧b=a):=by
        by_cases h1:k<n
        ·exact .inr ⟨decide_eq_true h1,by by_cases h2:b=a;exact h2;exact absurd ⟨h1,h2⟩ hgo⟩
        ·exact .inl (decide_eq_false h1)
       clear hgo;rcases hno with hk1 | ⟨hk1,hba⟩
       ·have hk3:¬ k<n:=of_decide_eq_false hk1
        go_wp2_with fail
        go_roundg (t - (b+1))
        case measure=>omega
        case rel=>exact ⟨b+1,by go_num,hblt,rfl,hA.out⟩
       ·subst hba;have hk3:k<n:=of_decide_eq_true hk1;have hb1:((b:Int)==(b:Int))=true:=by simp
        have hb2:((b:Int) != (b:Int))=false:=by simp
        go_wp2_with fail
        go_roundg (t - (b+1))
        case measure=>omega
        case rel=>exact ⟨b+1,by go_num,hblt,rfl,hA.out⟩
    ·have hbt:b=t:=by omega
     subst hbt;have hbd:decide (b<b)=false:=decide_eq_false (by omega);clear hbge
     go_wp2_with fail
     go_roundg (b - (a+1))
     case measure=>omega
     case rel=>exact ⟨a+1,by go_num,halt,rfl,hA.out⟩
  ·have hat:a=t:=by omega
   subst hat;have hbd:decide (a<a)=false:=decide_eq_false (by omega);clear hage
   go_wp2_with fail
   exact HEXIT.out wA hA _ _ _ _ _ _ _ _ _ _ _ _ _ _ _ _ _ _ _ _ _ _ _ _ _ _ _ _ _ _ _ _ _ _ _ _ _ _ _ _ _ _ _ _ _ _ _ _ _ _ _ _ _ _ _ _ _ _ _ _ _ _ _ _ _
def exFree:List Bool:=[true,true,true,true,false,true,true,true,true]
theorem zcD:∀(os:List Obj) (w:World),Ext w (os.foldl World.alloc w)
 | [],w=>Ext.refl w
 | o :: os,w=>((Ext.refl w).alloc o).trans (zcD os (w.alloc o))
theorem allocs_at:∀(os:List Obj) (w:World) (i:Nat) (o:Obj),os[i]?=some o→(os.foldl World.alloc w).heap[w.heap.size+i]?=some o
 | o :: os,w,0,o',h=>by
  have:o=o':=by simpa using h
  subst this;exact ((zcD os (w.alloc o)).block _ (by simp)).trans (heap_alloc_new w o)
 | o :: os,w,i+1,o',h=>by
  have:=allocs_at os (w.alloc o) i o' (by simpa using h);rw [show w.heap.size+(i+1)=(w.alloc o).heap.size+i from by simp;omega];exact this
theorem made_calls {ok:Nat→Prop} {v:Value} {ls:List (List Int)} (w:World) (hl:zo w ok v ls) (hll:ls.length≤9223372036854775807) (hlx:∀l∈ls,l.length≤9223372036854775807):
  Calls Tryz.prog 31 #[v] w (zaL w):=by
 have hlb:=hl.bound;have HLS:=zh hlb;obtain ⟨vs,⟨A,c,rfl,hc,hr⟩,he⟩:=hlb;have HR:=zh hr;have HE:=zh he;clear hl hr he;have HLX:=zh hlx;clear hlx;obtain ⟨iI,ji,jz0,jz1,jz2⟩:=info_parts Tryz.infoInt;have JF:=zh ji;have JZ0:=zh jz0;have JZ1:=zh jz1;have JZ2:=zh jz2;clear ji jz0 jz1 jz2;obtain ⟨iB,bi,bz0,bz1,bz2⟩:=info_parts Tryz.infoBool;have BF:=zh bi;have BZ0:=zh bz0;have BZ1:=zh bz1;have BZ2:=zh bz2;clear bi bz0 bz1 bz2;obtain ⟨iT,ti,tz0,tz1,tz2⟩:=info_parts Tryz.infoTask;have TF:=zh ti;have TZ0:=zh tz0;have TZ1:=zh tz1;have TZ2:=zh tz2;clear ti tz0 tz1 tz2;obtain ⟨iL,li,lz0,lz1,lz2⟩:=info_parts Tryz.infoBools;have LF:=zh li;have LZ0:=zh lz0;have LZ1:=zh lz1;have LZ2:=zh lz2;clear li lz0 lz1 lz2
 go_enter Tryz.func31,Tryz.ntmps31
 go_upto_region 1 with fail;generalize hw1:w.alloc (.cells #[.int .i64 0,.int .i64 0,.int .i64 0,.slice none 0 0,.slice none 0 0,.slice none 0 0] 32)=w1;have hE1:Ext w w1:=by rw [←hw1];exact (Ext.refl w).alloc _
 have HT2:Hid (Blk w1 w.heap.size 32 #[.int .i64 0,.int .i64 0,.int .i64 0,.slice none 0 0,.slice none 0 0,.slice none 0 0]∧w1.heap.size=w.heap.size+1):=by rw [←hw1];exact ⟨Blk.new _ _ _ rfl,by simp⟩
 clear hw1;have HE1:=zh hE1;obtain ⟨B,hB⟩:∃B,B=w1.heap.size:=⟨_,rfl⟩;obtain ⟨gd,hgd⟩:∃gd,gd=w1.heap.size:=⟨_,rfl⟩;have HB:=zh hB;have HGD:=zh hgd;have hd1:zR B (w1.alloc (.cells #[.slice none 0 0,.int .i64 0] 108)) gd:=⟨by omega,_,0,[],Blk.new _ _ _ hgd,zf.nil _ _,by simp,by simp⟩;have HD1:=zh hd1;clear hd1 hE1
 go_upto_if 20 with fail
 rw [←hgd];go_cut [] (fun wx=>Hid (Ext w1 wx∧zR B wx gd))
 case first=>
  by_cases hz:ls.length=0
  ·have hgz:decide ((0:Int)<(ls.length:Int))=false:=by rw [hz];rfl
   have hgz2:decide (0<ls.length)=false:=by rw [hz];rfl
   have hgz3:¬ (0<ls.length):=by omega
   have HZ:=zh hz;clear hz
   go_wp2_with fail
   go_meet;exact ⟨(Ext.refl _).alloc _,HD1.out⟩
  ·have hp:0<ls.length:=by omega
   have hgz:decide ((0:Int)<(ls.length:Int))=true:=decide_eq_true (by omega);have hgz2:decide (0<ls.length)=true:=decide_eq_true hp;obtain ⟨b0,o0,u0,rfl,hok0,hc0,hu0⟩:=zP HR.out HE.out hp hp;have HU:=zh hu0;obtain ⟨A0,c0,rfl,hc00,-⟩:=hu0;rw [Nat.add_zero] at hc0;have q0:=Ext.rule hc0;have hx0:Ext w (w1.alloc (.cells #[.slice none 0 0,.int .i64 0] 108)):=HE1.out.alloc _;clear hz hc0
   go_wp2_with fail
   go_meet;have h1:=hx0;refine ⟨(Ext.refl _).alloc _,by omega,_,0,ls[0],Blk.new _ _ _ hgd,?_,HLX.out _ (List.getElem_mem hp),Nat.zero_le _⟩;exact (zf.below HU.out (HE1.out.alloc _)).weaken fun b hb=>by have:=hb.2;have:=HT2.out.2;omega
 case rest=>
  have hB1:B≤w1.heap.size:=by omega
  clear hB hgd;obtain ⟨hx2,hd2⟩:=hcut.out;have HD2:=zh hd2;clear hcut hd2
  go_wp2_with fail
  refine (zN 3 HD2.out (by omega) (by omega)).mono ?_;rintro e w3 ⟨x,rfl,hxa,hxb,hd3,hg3⟩;have hx3:Ext w1 w3:=Below.grown hx2 hg3 hx2.size (fun k hk=>by injection hk with hk;have:=HGD.out;omega);have HD3:=zh hd3;clear hd3 hg3 hx2
  go_wp2_with fail
  refine (zN 4 HD3.out (by omega) (by omega)).mono ?_;rintro e w4 ⟨y,rfl,hya,hyb,hd4,hg4⟩;have hx4:Ext w1 w4:=Below.grown hx3 hg4 hx3.size (fun k hk=>by injection hk with hk;have:=HGD.out;omega);have HD4:=zh hd4;clear hd4 hg4 hx3
  go_wp2_with fail
  refine (zN 2 HD4.out (by omega) (by omega)).mono ?_;rintro e w5 ⟨z,rfl,hza,hzb,hd5,hg5⟩;have hx5:Ext w1 w5:=Below.grown hx4 hg5 hx4.size (fun k hk=>by injection hk with hk;have:=HGD.out;omega);have HD5:=zh hd5;clear hd5 hg5 hx4;have HM0:Hid (Blk (w5.alloc (.cells #[.int .i64 (2+x),.int .i64 (1+y),.int .i64 (1+z),.slice none 0 0,.slice none 0 0,.slice none 0 0] 32)) w5.heap.size 32 #[.int .i64 (2+x),.int .i64 (1+y),.int .i64 (1+z),.slice none 0 0,.slice none 0 0,.slice none 0 0]):=Blk.new _ _ _ rfl;obtain ⟨gm,hgm⟩:∃gm,gm=w5.heap.size:=⟨_,rfl⟩;rw [←hgm] at HM0;have HGM:=zh hgm;have HE0:=zh hx5
  go_upto_if 39 with fail
  rw [←hgm];clear hgm;go_cut [] (fun wx=>Hid (Ext w1 wx∧zR B wx gd∧∃W H L:Int,(2≤W∧W≤4)∧(1≤H∧H≤4)∧(L=1∨(L=2∧W≤3∧H≤2))∧Blk wx gm 32 #[.int .i64 W,.int .i64 H,.int .i64 L,.slice none 0 0,.slice none 0 0,.slice none 0 0]))
  case first=>
   have hbm:=HM0.out;generalize hw6:w5.alloc (.cells #[.int .i64 (2+x),.int .i64 (1+y),.int .i64 (1+z),.slice none 0 0,.slice none 0 0,.slice none 0 0] 32)=w6 at*;have hx6:Ext w1 w6:=by rw [←hw6];exact hx5.alloc _
   have HD6:Hid (zR B w6 gd):=by rw [←hw6];exact HD5.out.ext ((Ext.refl _).alloc _) (Nat.le_trans hB1 hx5.size)
   clear hw6;have m0:w6.cell? ⟨gm,0,none⟩=some (.int .i64 (2+x)):=hbm.cell (k:=0) rfl;have m1:w6.cell? ⟨gm,1,none⟩=some (.int .i64 (1+y)):=hbm.cell (k:=1) rfl;have m2:w6.cell? ⟨gm,2,none⟩=some (.int .i64 (1+z)):=hbm.cell (k:=2) rfl;have hf:=fun k=>hbm.frozen k
   have HBM:=zh hbm;clear hbm;by_cases hz1:z=1
   ·have ht:((1+z:Int)==2)=true:=by rw [beq_iff_eq];omega
    have ht2:decide (1+z=2)=true:=decide_eq_true (by omega);have ht3:(z==1)=true:=by rw [beq_iff_eq];exact hz1
    have HZ1:=zh hz1;clear hz1
    go_wp2_with fail
    go_meet;have hgB:B≤gm:=by have:=HGM.out;have:=hx5.size;omega
    have hgw:w1.heap.size≤gm:=by have:=HGM.out;have:=hx5.size;omega
    have hdr:=HD6.out;refine ⟨(hx6.setCell (p:=⟨gm,0,none⟩) hgw _).setCell (p:=⟨gm,1,none⟩) hgw _,?_,min (2+x) 3,min (1+y) 2,1+z,by omega,by omega,.inr ⟨by have:=HZ1.out;omega,by omega,by omega⟩,?_⟩
    ·obtain ⟨cs,hb⟩:=hdr.blk;have hne:gd≠gm:=Blk.ne_ hb (HBM.out) (by decide);exact hdr.keep (((Below.refl B w6).setCell (p:=⟨gm,0,none⟩) hgB _).setCell (p:=⟨gm,1,none⟩) hgB _) ((Below.heap_setCell _ ⟨gm,1,none⟩ _ gd hne).trans (Below.heap_setCell _ ⟨gm,0,none⟩ _ gd hne))
    ·exact ((HBM.out).set (k:=0) _).set (k:=1) _
   ·have ht:((1+z:Int)==2)=false:=by rw [beq_eq_false_iff_ne];omega
    have ht2:decide (1+z=2)=false:=decide_eq_false (by omega);have ht3:(z==1)=false:=by rw [beq_eq_false_iff_ne];exact hz1
    have hz0:Hid (1+z=1):=by show _=_;omega
    clear hz1
    go_wp2_with fail
    go_meet;exact ⟨hx6,HD6.out,2+x,1+y,1+z,by omega,by omega,.inl hz0.out,HBM.out⟩
  case rest=>
   obtain ⟨hx7,hd7,W,H,L,hW,hH,hL,hM7⟩:=hcut.out;clear hcut;have hdim:=dims hW hH hL;have HWHL:Hid ((2≤W∧W≤4)∧(1≤H∧H≤4)∧(L=1∨(L=2∧W≤3∧H≤2))):=⟨hW,hH,hL⟩;have m0:wc.cell? ⟨gm,0,none⟩=some (.int .i64 W):=hM7.cell (k:=0) rfl;have m1:wc.cell? ⟨gm,1,none⟩=some (.int .i64 H):=hM7.cell (k:=1) rfl;have m2:wc.cell? ⟨gm,2,none⟩=some (.int .i64 L):=hM7.cell (k:=2) rfl;have m3:wc.cell? ⟨gm,3,none⟩=some (.slice none 0 0):=hM7.cell (k:=3) rfl;have m4:wc.cell? ⟨gm,4,none⟩=some (.slice none 0 0):=hM7.cell (k:=4) rfl;have m5:wc.cell? ⟨gm,5,none⟩=some (.slice none 0 0):=hM7.cell (k:=5) rfl;have HM7:=zh hM7;have HD7:=zh hd7;clear hM7 hd7 hW hH hL hx5
   go_wp2_with fail
   refine (zax W H L _ _ _ _ (by omega) (by omega)).mono ?_;rintro e w8 ⟨rfl,hb8⟩;have hx78:Ext wc w8:=hb8;have hx8:Ext w1 w8:=hx7.trans hx78;have HD8:Hid (zR B w8 gd):=HD7.out.ext hx78 (Nat.le_trans hB1 hx7.size);have HM8:Hid (Blk w8 gm 32 #[.int .i64 W,.int .i64 H,.int .i64 L,.slice none 0 0,.slice none 0 0,.slice none 0 0]):=HM7.out.ext hx78;obtain ⟨n,hn⟩:∃n:Nat,(n:Int)=W*H*L:=⟨(W*H*L).toNat,by omega⟩;rw [←hn];have HN:=zh hn;have hn2:2≤n∧n≤16:=by omega
   clear hn hdim m0 m1 m2 m3 m4 m5 hb8 hx78 hx7
   go_wp2_with fail
   refine (zN 3 HD8.out (by omega) (by omega)).mono ?_;rintro e w9 ⟨z9,rfl,hza9,hzb9,hd9,hg9⟩;obtain ⟨many,hmany⟩:∃many:Nat,(many:Int)=1+z9:=⟨(1+z9).toNat,by omega⟩;have hm3:1≤many∧many≤3:=by omega
   have H9:Hid (MS B w9 w9.heap.size gm gd W H L n 0 0 (.slice none 0 0) (.slice none 0 0) (.slice none 0 0) [] []):=by
    have hgB:B≤gm:=by have:=HGM.out;have:=HE0.out.size;omega
    have h0:MS B w8 w8.heap.size gm gd W H L n 0 0 (.slice none 0 0) (.slice none 0 0) (.slice none 0 0) [] []:=⟨Nat.le_trans hB1 hx8.size,Nat.le_refl _,HM8.out,hgB,HD8.out,World.ownsRow_nil _ _ _ _,World.ownsRow_nil _ _ _ _,fun j hj=>by omega,fun j hj=>by omega⟩;have h1:=h0.drawn hd9 hg9;exact h1.ext (Ext.refl _)
   have hx9:Ext w1 w9:=Below.grown hx8 hg9 hx8.size (fun k hk=>by injection hk with hk;have:=HGD.out;omega);have HX9:=zh hx9;clear hd9 hg9 hx9 hx8
   go_wp2_with fail
   rw [←hmany];clear hmany hza9 hzb9
   go_loopg [7] many (fun gk v wr=>∃(t:Nat) (vF vT:Value) (fs ts:List Value),v=.int .i64 t∧t≤many∧gk=many - t∧Hid (MS B wr wr.heap.size gm gd W H L n t t vF (.slice none 0 0) vT fs ts∧Ext w1 wr))
   case atStart=>exact ⟨0,_,_,[],[],rfl,Nat.zero_le _,rfl,H9.out,HX9.out⟩
   clear H9 HX9
   case round=>
    obtain ⟨t,vF,vT,fs,ts,rfl,ht,rfl,hMS⟩:=hrel;obtain ⟨wR,rfl⟩:∃wR:World,wR=wr:=⟨_,rfl⟩;rcases Nat.lt_or_ge t many with hlt | hge
    ·skip
     have hsR:B≤wR.heap.size:=hMS.out.1.hB;obtain ⟨ge,hge⟩:∃ge,ge=wR.heap.size:=⟨_,rfl⟩;have HGE:=zh hge;have HDe:Hid (zR B (wR.alloc (.cells #[.slice none 0 0,.int .i64 0] 108)) ge):=⟨by omega,_,0,[],Blk.new _ _ _ hge,zf.nil _ _,by simp,by simp⟩;have HBa:Hid (Blk (wR.alloc (.cells #[.slice none 0 0,.int .i64 0] 108)) ge 108 #[.slice none 0 0,.int .i64 0]):=Blk.new _ _ _ hge;have HEa:Hid (Ext wR (wR.alloc (.cells #[.slice none 0 0,.int .i64 0] 108))):=(Ext.refl _).alloc _
     go_upto_if 64 with fail
     rw [←hge];clear hge;generalize wR.alloc (.cells #[.slice none 0 0,.int .i64 0] 108)=wa at*;go_cut [] (fun wx=>Hid (Ext wR wx∧zR B wx ge))
     case first=>
      by_cases hz:t+1<ls.length
      ·have hgz:decide ((t:Int)+1<(ls.length:Int))=true:=decide_eq_true (by omega);have hgz2:decide (t+1<ls.length)=true:=decide_eq_true hz;have hgz3:(t:Int)+1<(ls.length:Int):=by omega
       obtain ⟨b0,o0,u0,rfl,hok0,hc0,hu0⟩:=zP HR.out HE.out hz hz;have HU:=zh hu0;obtain ⟨A0,c0,rfl,hc00,-⟩:=hu0;have q0:=Ext.rule hc0;have hwR:Ext w wR:=HE1.out.trans hMS.out.2;have hx0:Ext w wa:=hwR.trans HEa.out;have HWR:=zh hx0;have hca:wa.cell? ⟨ge,0,none⟩=some (.slice none 0 0):=HBa.out.cell (k:=0) rfl;have hfa:wa.frozen? ⟨ge,0,none⟩=false:=HBa.out.frozen 0;clear hc0 hwR
       go_wp2_with fail
       go_meet;have hgR:wR.heap.size≤ge:=by have:=HGE.out;omega
       have hgW:w.heap.size≤ge:=by have:=HGE.out;have:=(Below.size (HE1.out.trans hMS.out.2));omega
       refine ⟨HEa.out.setCell (p:=⟨ge,0,none⟩) hgR _,by have:=HGE.out;omega,_,0,ls[t+1],HBa.out.set (k:=0) _,?_,HLX.out _ (List.getElem_mem hz),Nat.zero_le _⟩;exact (zf.keep HU.out (zX.of_below (HWR.out.setCell (p:=⟨ge,0,none⟩) hgW _))).weaken fun b hb=>by have:=hb.2;have:=HT2.out.2;have:=HB.out;omega
      ·have hgz:decide ((t:Int)+1<(ls.length:Int))=false:=decide_eq_false (by omega);have hgz2:decide (t+1<ls.length)=false:=decide_eq_false hz;have hgz3:¬ (t:Int)+1<(ls.length:Int):=by omega
       have HZ:=zh hz;clear hz
       go_wp2_with fail
       go_meet;exact ⟨HEa.out,HDe.out⟩
     case rest=>
      obtain ⟨hxe,hde⟩:=hcut.out;have HXE:=zh hxe;have HDE:=zh hde;clear hcut hde HDe;obtain ⟨w6,rfl⟩:∃w6:World,w6=wc:=⟨_,rfl⟩;have hB0:B≤w6.heap.size:=Nat.le_trans hsR hxe.size;have hl0:ge<w6.heap.size:=HDE.out.lt;have ht3:t<3:=by omega
      have ht30:(t:Int)<3:=by omega
      have ht31:(0:Int)≤(t:Int):=by omega
      clear hxe
      go_wp2_with fail
      refine r16_wp HDE hB0 hl0 ht3 ht30 ht31 hn2 ?hQ16
      case hQ16=>
       intro v W hJ _;obtain ⟨s,g7,g11,gt,x1,x2,hv3,hv7,hv11,hv13,hR1⟩:=hJ.fin hsR HXE.out.size (by have:=HGE.out;omega);have hEW:Ext wR W:=Below.grown HXE.out hJ.gb HXE.out.size (fun k hk=>by injection hk with hk;have:=HGE.out;omega);have HR1:=zh hR1;have HEW:=zh hEW;clear hJ hR1 hEW hv3 hv7 hv11;rw [hv13];clear hv13
       go_wp2_with fail
       refine (zN 3 HR1.out.dr (by omega) (by omega)).mono ?_;rintro e wb ⟨z,rfl,hz0,hz3,hdb,hgb⟩;have HR1b:=zh (HR1.out.drawn hdb hgb);have HEWb:=zh (HR1.out.drawnExt HEW.out hgb);clear hdb hgb HR1 HEW
       go_upto_if 88 with fail
       go_cut [] (fun wx=>∃(u1:Value) (l1:List Int),Hid (R1 B wx wR.heap.size ge gt n s u1 (.slice (some ⟨g11,0,none⟩) 1 1) l1 [x2]∧Ext wR wx∧l1.length≤2))
       case first=>
        by_cases hz:z=0
        ·have hzz:(z==0)=true:=by rw [beq_iff_eq];exact hz
         have HZ:=zh hz;clear hz
         go_wp2_with fail
         refine r18_wp HR1b HEWb hn2 (fun c a a' W he h=>(show a'.defers=[]∧zaL w (.panicked c) W from ⟨he ▸ (show a.defers=[]∧zaL w (.panicked c) W from h).1,(show a.defers=[]∧zaL w (.panicked c) W from h).2⟩)) (fun u1 l1 W h9 x89 x90 x91 x92 x93 x94 x95 x96=>?_)
         go_wp2_with fail
         go_meet;exact ⟨_,_,h9⟩
        ·have hzz:(z==0)=false:=by rw [beq_eq_false_iff_ne];exact hz
         have HZ:=zh hz;clear hz
         go_wp2_with fail
         go_meet;exact ⟨_,[x1],HR1b.out,HEWb.out,by simp⟩
       case rest=>
        obtain ⟨u1,l1,hq1⟩:=hcut;have HR2:=zh hq1.out.1;have HE2:=zh hq1.out.2.1;have HL1:=zh hq1.out.2.2;clear hq1
        go_wp2_with fail
        refine (zN 3 HR2.out.dr (by omega) (by omega)).mono ?_;rintro e wq ⟨zz,rfl,hzz0,hzz3,hdq,hgq⟩;have HR2b:=zh (HR2.out.drawn hdq hgq);have HE2b:=zh (HR2.out.drawnExt HE2.out hgq);clear hdq hgq HR2 HE2 HR1b HEWb
        go_upto_if 99 with fail
        go_cut [] (fun wx=>∃(u2:Value) (l2:List Int),Hid (R1 B wx wR.heap.size ge gt n s u1 u2 l1 l2∧Ext wR wx∧l2.length≤2))
        case first=>
         by_cases hz:zz=0
         ·have hzz:(zz==0)=true:=by rw [beq_iff_eq];exact hz
          have HZ:=zh hz;clear hz
          go_wp2_with fail
          refine r20_wp HR2b HE2b hn2 (fun c a a' W he h=>(show a'.defers=[]∧zaL w (.panicked c) W from ⟨he ▸ (show a.defers=[]∧zaL w (.panicked c) W from h).1,(show a.defers=[]∧zaL w (.panicked c) W from h).2⟩)) (fun u2 l2 W h9 x100 x101 x102 x103 x104 x105 x106 x107=>?_)
          go_wp2_with fail
          go_meet;exact ⟨_,_,h9⟩
         ·have hzz:(zz==0)=false:=by rw [beq_eq_false_iff_ne];exact hz
          have HZ:=zh hz;clear hz
          go_wp2_with fail
          go_meet;exact ⟨_,[x2],HR2b.out,HE2b.out,by simp⟩
        case rest=>
         obtain ⟨u2,l2,hq2⟩:=hcut;have HR3:=zh hq2.out.1;have HE3:=zh hq2.out.2.1;have HL2:=zh hq2.out.2.2;obtain ⟨w7,rfl⟩:∃w7:World,w7=wc:=⟨_,rfl⟩;have H70:Hid (OwnB w7 w7.heap.size (.slice none 0 0) []):=World.ownsRow_nil _ _ _ _;clear hq2 HR2b HE2b
         go_wp2_with fail
         go_loopg [10,11] n (fun gk vf v wr=>∃(k:Nat) (lf:List Bool),v=.int .i64 k∧k≤n∧gk=n - k∧lf.length=k∧Hid (R1 B wr wR.heap.size ge gt n s u1 u2 l1 l2∧Ext wR wr∧OwnB wr w7.heap.size vf lf∧w7.heap.size≤wr.heap.size))
         case atStart=>exact ⟨0,[],rfl,Nat.zero_le _,rfl,rfl,HR3.out,HE3.out,H70.out,Nat.le_refl _⟩
         clear H70
         case round=>
          obtain ⟨k,lf,rfl,hk,rfl,hlf,hQ⟩:=hrel;have HSS:=zh HE3.out.size;have HLF:=zh hlf;have hlf16:lf.length≤16:=by omega
          clear hlf;rcases Nat.lt_or_ge k n with hlt2 | hge2
          ·skip
           go_wp2_with fail
           refine (zN 6 hQ.out.1.dr (by omega) (by omega)).mono ?_;rintro e wd ⟨x,rfl,hx0,hx6,hdd,hgdd⟩;have HRd:=zh (hQ.out.1.drawn hdd hgdd);have HEd:=zh (hQ.out.1.drawnExt hQ.out.2.1 hgdd)
           have HOd:Hid (OwnB wd w7.heap.size u10 lf):=zaj hQ.out.2.2.1 fun g hg=>hgdd.block g (World.ownsRow.lt hQ.out.2.2.1 g hg).2 (fun e=>by
            obtain ⟨cs,hb⟩:=hQ.out.1.dr.blk;injection e with e;subst e;exact zj hQ.out.2.2.1 hb (by decide) hg)
           have hmono:w7.heap.size≤wd.heap.size:=Nat.le_trans hQ.out.2.2.2 hgdd.size;clear hdd hgdd;obtain ⟨Af,cf,rfl,hcf,-⟩:=HOd.out.bools;have hk0:(0:Int)≤(k:Int):=by omega
           have hct1:wd.cell? ⟨gt,1,none⟩=some u1:=HRd.out.tk.cell (k:=1) rfl;have hct2:wd.cell? ⟨gt,2,none⟩=some u2:=HRd.out.tk.cell (k:=2) rfl;by_cases hx:0<x
           ·have hxd:decide (0<x)=true:=decide_eq_true hx
            go_wp2_with (at_builtin;refine wpList_append_own_at _ rfl _ _ 29 rfl w7.heap.size 4 iB (.bool false) 1 1 Tryz.underlying29 BF.out BZ0.out BZ1.out BZ2.out rfl (by decide) (.slice Af lf.length cf) lf.length _ rfl (World.ownsRow.alloc HOd.out _) ⟨wd.heap.size,0,none⟩ 1 1 [.bool true] rfl rfl (cell_one_new _ _ _) (by simp [Value.oneCell']) (by unfold maxLen;omega) (by omega) (by simp;omega) ?_)
            intro v' w9 hown hg _ hv';obtain ⟨hr9,hb9⟩:=HRd.out.grownB HOd.out HSS.out hg;have HR9:=zh hr9;have HE9:Hid (Ext wR w9):=Below.trans HEd.out hb9;have HZ9:Hid (w7.heap.size≤w9.heap.size):=by have:=hg.size;simp at this;show _≤_;omega
            have HO9:Hid (OwnB w9 w7.heap.size v' (lf++[true])):=OwnB.app hown;clear hr9 hb9 hown hg hv'
            go_wp2_with fail
            go_roundg (n - (k+1))
            case measure=>omega
            case rel=>exact ⟨k+1,lf++[true],by go_num,hlt2,rfl,by have:=HLF.out;simp;omega,HR9.out,HE9.out,HO9.out,HZ9.out⟩
           ·have hxd:decide (0<x)=false:=decide_eq_false hx
            go_wp2_with fail
            refine (zE (k:Int) wd (Row.of_own HRd.out.o1) (by have:=HL1.out;omega)).mono ?_;rintro e w' ⟨rfl,rfl⟩;generalize decide ((k:Int)∈l1)=b1
            cases b1 with
            | true=>
             go_wp2_with (at_builtin;refine wpList_append_own_at _ rfl _ _ 29 rfl w7.heap.size 4 iB (.bool false) 1 1 Tryz.underlying29 BF.out BZ0.out BZ1.out BZ2.out rfl (by decide) (.slice Af lf.length cf) lf.length _ rfl (World.ownsRow.alloc HOd.out _) ⟨wd.heap.size,0,none⟩ 1 1 [.bool true] rfl rfl (cell_one_new _ _ _) (by simp [Value.oneCell']) (by unfold maxLen;omega) (by omega) (by simp;omega) ?_)
             intro v' w9 hown hg _ hv';obtain ⟨hr9,hb9⟩:=HRd.out.grownB HOd.out HSS.out hg;have HR9:=zh hr9;have HE9:Hid (Ext wR w9):=Below.trans HEd.out hb9;have HZ9:Hid (w7.heap.size≤w9.heap.size):=by have:=hg.size;simp at this;show _≤_;omega
             have HO9:Hid (OwnB w9 w7.heap.size v' (lf++[true])):=OwnB.app hown;clear hr9 hb9 hown hg hv'
             go_wp2_with fail
             go_roundg (n - (k+1))
             case measure=>omega
             case rel=>exact ⟨k+1,lf++[true],by go_num,hlt2,rfl,by have:=HLF.out;simp;omega,HR9.out,HE9.out,HO9.out,HZ9.out⟩
            | false=>
             go_wp2_with fail
             refine (zE (k:Int) wd (Row.of_own HRd.out.o2) (by have:=HL2.out;omega)).mono ?_;rintro e w' ⟨rfl,rfl⟩;generalize decide ((k:Int)∈l2)=b2
             go_wp2_with (at_builtin;refine wpList_append_own_at _ rfl _ _ 29 rfl w7.heap.size 4 iB (.bool false) 1 1 Tryz.underlying29 BF.out BZ0.out BZ1.out BZ2.out rfl (by decide) (.slice Af lf.length cf) lf.length _ rfl (World.ownsRow.alloc HOd.out _) ⟨wd.heap.size,0,none⟩ 1 1 [.bool b2] rfl rfl (cell_one_new _ _ _) (by simp [Value.oneCell']) (by unfold maxLen;omega) (by omega) (by simp;omega) ?_)
             intro v' w9 hown hg _ hv';obtain ⟨hr9,hb9⟩:=HRd.out.grownB HOd.out HSS.out hg;have HR9:=zh hr9;have HE9:Hid (Ext wR w9):=Below.trans HEd.out hb9;have HZ9:Hid (w7.heap.size≤w9.heap.size):=by have:=hg.size;simp at this;show _≤_;omega
             have HO9:Hid (OwnB w9 w7.heap.size v' (lf++[b2])):=OwnB.app hown;clear hr9 hb9 hown hg hv'
             go_wp2_with fail
             go_roundg (n - (k+1))
             case measure=>omega
             case rel=>exact ⟨k+1,lf++[b2],by go_num,hlt2,rfl,by have:=HLF.out;simp;omega,HR9.out,HE9.out,HO9.out,HZ9.out⟩
          ·skip
           have hkn:k=n:=by omega
           have HKN:=zh hkn;have hkd1:decide (k<n)=false:=decide_eq_false (by omega);have hkd2:decide ((k:Int)<(n:Int))=false:=decide_eq_false (by omega);have hkd3:¬ k<n:=by omega
           clear hkn hge2;have hMr:=hMS.out.1.ext hQ.out.2.1;have m5:wr.cell? ⟨gm,5,none⟩=some vT:=hMr.mz.cell (k:=5) rfl;have hf:=fun j=>hMr.mz.frozen j
           have hfm:∀j,wr.frozen? ⟨gm,j,none⟩=false:=hf;obtain ⟨A1,c1,rfl,-⟩:=za6 hQ.out.1.o1;obtain ⟨A2,c2,rfl,-⟩:=za6 hQ.out.1.o2;have t0:wr.cell? ⟨gt,0,none⟩=some (.string s):=hQ.out.1.tk.cell (k:=0) rfl;have t1:wr.cell? ⟨gt,1,none⟩=some (.slice A1 l1.length c1):=hQ.out.1.tk.cell (k:=1) rfl;have t2:wr.cell? ⟨gt,2,none⟩=some (.slice A2 l2.length c2):=hQ.out.1.tk.cell (k:=2) rfl;have HMr:=zh hMr;clear hMr hf
           go_wp2_with (at_builtin;refine wpList_append_own_at _ rfl _ _ 30 rfl B 56 iT (.agg #[.string ⟨#[]⟩,.slice none 0 0,.slice none 0 0]) 3 64 Tryz.underlying30 TF.out TZ0.out TZ1.out TZ2.out rfl (by decide) vT t _ rfl (HMr.out.T.alloc _) ⟨wr.heap.size,0,none⟩ 1 1 [.string s,.slice A1 l1.length c1,.slice A2 l2.length c2] rfl rfl (cells3n _ _ _ _ _) (by simp [Value.oneCell']) (by unfold maxLen;omega) (by omega) (by have:=HMr.out.hB;simp;omega) ?_)
           intro v' w9 hown hg _ hv';obtain ⟨gv,cv,rfl,-,-⟩:=World.ownsRow.form hown (by omega);obtain ⟨hM1,hO1,hb1⟩:=HMr.out.end1 hQ.out.1 HL1.out HL2.out hQ.out.2.2.1 hown hg;have hblk9:w9.heap[gm]?=wr.heap[gm]?:=(hg.block gm (by have:=zb HMr.out.mz;simp;omega) (fun e=>zj HMr.out.T HMr.out.mz (by decide) e.symm)).trans (Below.heap_alloc _ _ _ (zb HMr.out.mz));have hc9:w9.cell? ⟨gm,5,none⟩=some vT:=(World.cell?_of_block (a:=⟨gm,5,none⟩) hblk9).trans m5;have hf9:w9.frozen? ⟨gm,5,none⟩=false:=(World.frozen?_of_block (a:=⟨gm,5,none⟩) hblk9).trans (hfm 5);have HM1:=zh hM1;have HO1:=zh hO1;have HE1':Hid (Ext w1 (w9.setCell ⟨gm,5,none⟩ (.slice (some ⟨gv,0,none⟩) (t+1) cv))):=Below.trans (Ext.trans hMS.out.2 hQ.out.2.1) (HB.out ▸ hb1);clear hM1 hO1 hb1 hown hg hv' hblk9 m5 hfm t0 t1 t2;go_upto_region 27 with fail;clear hc9 hf9;generalize w9.setCell ⟨gm,5,none⟩ (.slice (some ⟨gv,0,none⟩) (t+1) cv)=wv at*;obtain ⟨Af,cf,rfl,-,-⟩:=HO1.out.bools;have m3:wv.cell? ⟨gm,3,none⟩=some vF:=HM1.out.mz.cell (k:=3) rfl;have hfm:∀j,wv.frozen? ⟨gm,j,none⟩=false:=fun j=>HM1.out.mz.frozen j
           have HLT:Hid (∀g,(Value.slice Af lf.length cf).ownBlock=some g→g<wr.heap.size):=fun g hg=>(World.ownsRow.lt hQ.out.2.2.1 g hg).2
           go_wp2_with (at_builtin;refine wpList_append_own_at _ rfl _ _ 28 rfl B 29 iL (.slice none 0 0) 1 24 Tryz.underlying28 LF.out LZ0.out LZ1.out LZ2.out rfl (by decide) vF t _ rfl (HM1.out.F.alloc _) ⟨wv.heap.size,0,none⟩ 1 1 [.slice Af lf.length cf] rfl rfl (cell_one_new _ _ _) (by simp [Value.oneCell']) (by unfold maxLen;omega) (by omega) (by have:=HM1.out.hB;simp;omega) ?_)
           intro v2 w9 hown hg _ hv';obtain ⟨gv2,cv2,rfl,-,-⟩:=World.ownsRow.form hown (by omega);obtain ⟨hM2,hb2⟩:=HM1.out.end2 HO1.out (HLF.out.trans HKN.out) (Nat.le_trans hsR HSS.out) HLT.out hown hg;have hblk9:w9.heap[gm]?=wv.heap[gm]?:=(hg.block gm (by have:=zb HM1.out.mz;simp;omega) (fun e=>zj HM1.out.F HM1.out.mz (by decide) e.symm)).trans (Below.heap_alloc _ _ _ (zb HM1.out.mz));have hc9:w9.cell? ⟨gm,3,none⟩=some vF:=(World.cell?_of_block (a:=⟨gm,3,none⟩) hblk9).trans m3;have hf9:w9.frozen? ⟨gm,3,none⟩=false:=(World.frozen?_of_block (a:=⟨gm,3,none⟩) hblk9).trans (hfm 3);have HM2:=zh hM2;have HE2':Hid (Ext w1 (w9.setCell ⟨gm,3,none⟩ (.slice (some ⟨gv2,0,none⟩) (t+1) cv2))):=Below.trans HE1'.out (HB.out ▸ hb2);clear hM2 hb2 hown hg hv' hblk9 m3 hfm
           go_wp2_with fail
           go_roundg (many - (t+1))
           case measure=>omega
           case rel=>exact ⟨t+1,_,_,_,_,by go_num,hlt,rfl,HM2.out,HE2'.out⟩
    ·skip
     have htm:t=many:=by omega
     subst htm;have htd1:decide (t<t)=false:=decide_eq_false (by omega);have h1t:0<t:=by omega
     obtain ⟨gT,cT,rfl,hgTB,-⟩:=World.ownsRow.form hMS.out.1.T h1t;obtain ⟨gF,cF,rfl,hgFB,-⟩:=World.ownsRow.form hMS.out.1.F h1t;have HcT:=zh (zbv hMS.out.1.T);have HcF:=zh (zbv hMS.out.1.F);clear hge;have hM3:=zh (hMS.out.1);have hX3:=zh (hMS.out.2);clear hMS
     go_wp2_with fail
     have hMX:Hid (MS B wR wR.heap.size gm gd W H L n t t (.slice (some ⟨gF,0,none⟩) t cF) (.slice none 0 0) (.slice (some ⟨gT,0,none⟩) t cT) fs ts∧Ext w1 wR):=⟨hM3.out,hX3.out⟩;clear hM3 hX3;refine loop12_wp HB hgTB hgFB HcT HcF hn2 hm3 hMX (fun c a a' W he h=>(show a'.defers=[]∧zaL w (.panicked c) W from ⟨he ▸ (show a.defers=[]∧zaL w (.panicked c) W from h).1,(show a.defers=[]∧zaL w (.panicked c) W from h).2⟩)) (fun wA hA x13 x14 x143 x144 x145 x146 x147 x148 x149 x150 x151 x152 x153 x154 x155 x156 x157 x158 x159 x160 x161 x162 x163 x164 x165 x166 x167 x168 x169 x170 x171 x172 x173 x174 x175 x176 x177 x178 x179 x180 x181 x182 x183 x184 x185 x186 x187 x188 x189 x190 x191 x192 x193 x194 x195 x196 x197 x198 x199 x200 x201 x202 x203 x204 x205=>?_);clear hMX;obtain ⟨a,ha9⟩:∃a,a=t:=⟨_,rfl⟩;subst ha9
     go_wp2_with fail
     have hA0:=hA.out;obtain ⟨S,hS⟩:∃S,S=wA.heap.size:=⟨_,rfl⟩;have HQ0:Hid (RU w1 B wA S gm gd W H L n a a (.slice (some ⟨gF,0,none⟩) a cF) (.slice none 0 0) (.slice (some ⟨gT,0,none⟩) a cT) fs ts []):=⟨HB.out,hS ▸ hA0.1.hB,hS ▸ hA0.1,World.ownsRow_nil _ _ _ _,hA0.2⟩;clear hA0 hS hA
     go_loopg [15] n (fun gk v wr=>∃(i:Nat) (vU:Value) (us:List Bool),v=.int .i64 i∧i≤n∧gk=n - i∧us.length=i∧Hid (RU w1 B wr S gm gd W H L n a a (.slice (some ⟨gF,0,none⟩) a cF) vU (.slice (some ⟨gT,0,none⟩) a cT) fs ts us))
     case atStart=>exact ⟨0,_,[],rfl,Nat.zero_le _,rfl,rfl,HQ0.out⟩
     clear HQ0
     case round=>
      obtain ⟨i,vU,us,rfl,hi,rfl,hul,hQ⟩:=hrel;obtain ⟨wU,rfl⟩:∃wU:World,wU=wr:=⟨_,rfl⟩;rcases Nat.lt_or_ge i n with hin | hin
      ·have hid1:decide (i<n)=true:=decide_eq_true hin;have hid2:decide ((i:Int)<(n:Int))=true:=decide_eq_true (by omega);have HEU:Hid (Ext w1 wU):=hQ.out.ex;have hul2:us.length≤16:=by omega
       have HUL:=zh hul;clear hul;go_upto_region 42 with fail;refine r42_wp hQ hul2 (fun c a a' W he h=>(show a'.defers=[]∧zaL w (.panicked c) W from ⟨he ▸ (show a.defers=[]∧zaL w (.panicked c) W from h).1,(show a.defers=[]∧zaL w (.panicked c) W from h).2⟩)) (fun vU' x w2 h9 x211 x212 x213 x214 x215 x216 x217 x218=>?_);have HQ9:=zh h9;clear h9
       go_wp2_with fail
       go_roundg (n - (i+1))
       case measure=>omega
       case rel=>exact ⟨i+1,_,_,by go_num,hin,rfl,by rw [List.length_append,HUL.out];rfl,HQ9.out⟩
      ·have hid1:decide (i<n)=false:=decide_eq_false (by omega);have hid2:decide ((i:Int)<(n:Int))=false:=decide_eq_false (by omega);have hux:us.length=n:=by omega
       obtain ⟨Au,cu,hvU,-,-⟩:=OwnB.bools hQ.out.ow;rw [hul] at hvU;subst hvU;have hwhl:=HWHL.out;obtain ⟨mm,hmz,hMM⟩:=RU.maze hQ.out hwhl.1 hwhl.2.1 hwhl.2.2 HN.out hm3 hux;have HMZ:=zh hmz;have HMM:=zh hMM;have hBZ:Blk wU w.heap.size 32 #[.int .i64 0,.int .i64 0,.int .i64 0,.slice none 0 0,.slice none 0 0,.slice none 0 0]:=HT2.out.1.ext hQ.out.ex;have z0:wU.cell? ⟨w.heap.size,0,none⟩=some (.int .i64 0):=hBZ.cell (k:=0) rfl;have z1:wU.cell? ⟨w.heap.size,1,none⟩=some (.int .i64 0):=hBZ.cell (k:=1) rfl;have z2:wU.cell? ⟨w.heap.size,2,none⟩=some (.int .i64 0):=hBZ.cell (k:=2) rfl;have z3:wU.cell? ⟨w.heap.size,3,none⟩=some (.slice none 0 0):=hBZ.cell (k:=3) rfl;have z4:wU.cell? ⟨w.heap.size,4,none⟩=some (.slice none 0 0):=hBZ.cell (k:=4) rfl;have z5:wU.cell? ⟨w.heap.size,5,none⟩=some (.slice none 0 0):=hBZ.cell (k:=5) rfl;have hfz:∀j,wU.frozen? ⟨w.heap.size,j,none⟩=false:=fun j=>hBZ.frozen j
       have m0:wU.cell? ⟨gm,0,none⟩=some (.int .i64 W):=hQ.out.ms.mz.cell (k:=0) rfl;have m1:wU.cell? ⟨gm,1,none⟩=some (.int .i64 H):=hQ.out.ms.mz.cell (k:=1) rfl;have m2:wU.cell? ⟨gm,2,none⟩=some (.int .i64 L):=hQ.out.ms.mz.cell (k:=2) rfl;have m3:wU.cell? ⟨gm,3,none⟩=some (.slice (some ⟨gF,0,none⟩) a cF):=hQ.out.ms.mz.cell (k:=3) rfl;have m4:wU.cell? ⟨gm,4,none⟩=some (.slice Au i cu):=hQ.out.ms.mz.cell (k:=4) rfl;have m5:wU.cell? ⟨gm,5,none⟩=some (.slice (some ⟨gT,0,none⟩) a cT):=hQ.out.ms.mz.cell (k:=5) rfl;have HBZ:=zh hBZ;have HEX:Hid (Ext w1 wU):=hQ.out.ex;clear hwhl hmz hMM hBZ hux hin hQ
       go_wp2_with fail
       refine zc4 (P:=fun W=>bodyPost Tryz.prog Tryz.f31 (zaL w) Exit.ret _ W) (g2:=w.heap.size) ?_ HBZ.out;intro WZ hbz hEb hk;have y0:WZ.cell? ⟨w.heap.size,0,none⟩=some (.int .i64 W):=hbz.cell (k:=0) rfl;have y1:WZ.cell? ⟨w.heap.size,1,none⟩=some (.int .i64 H):=hbz.cell (k:=1) rfl;have y2:WZ.cell? ⟨w.heap.size,2,none⟩=some (.int .i64 L):=hbz.cell (k:=2) rfl;have y3:WZ.cell? ⟨w.heap.size,3,none⟩=some (.slice (some ⟨gF,0,none⟩) a cF):=hbz.cell (k:=3) rfl;have y4:WZ.cell? ⟨w.heap.size,4,none⟩=some (.slice Au i cu):=hbz.cell (k:=4) rfl;have y5:WZ.cell? ⟨w.heap.size,5,none⟩=some (.slice (some ⟨gT,0,none⟩) a cT):=hbz.cell (k:=5) rfl;have hxw:Ext w wU:=HE1.out.trans HEX.out;have hm':=HMZ.out.keep (w':=WZ) (fun b hb hlt=>hk b hlt (by have:=HT2.out.2;have:=HB.out;omega))
       exact bodyPost_ret (v:=.agg #[.int .i64 W,.int .i64 H,.int .i64 L,.slice (some ⟨gF,0,none⟩) a cF,.slice Au i cu,.slice (some ⟨gT,0,none⟩) a cT]) (by simp [results,Tryz.results31,go_sem,y0,y1,y2,y3,y4,y5]) rfl
        ⟨_,mm,rfl,Below.trans hxw hEb,hm'.weaken (fun b hb=>by have:=HT2.out.2;have:=HB.out;omega),HMM.out⟩
end Go.Proofs.YthbjngbhbbkkgaaGreat
