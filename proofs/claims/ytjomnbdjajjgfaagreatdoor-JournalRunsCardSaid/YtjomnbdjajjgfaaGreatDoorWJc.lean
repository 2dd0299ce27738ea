import Derived.Test.YtjomnbdjajjgfaaGreatDoorWJb
import Derived.BigQuiet
import Derived.Deep.RegionHeld3
import Derived.Deep.DrawnRows
import Derived.Lib.SliceRun
import Derived.RangeFuncNested
import Derived.RangeFuncBound
import Derived.RangeFuncCalls
import Derived.RangeFuncLeaves
import Derived.RangeFuncBox
import Derived.Shelf.Abstract
import Derived.Maps.AppendAt
import Derived.RangeFuncWrites
import Derived.Shelf.RegionOpen
import Derived.OwnWalkIn
import Derived.TacticsInMore
import Derived.LoopNIn
import Derived.LoopIn
import Derived.Deep.RegionHeld
import Derived.CallsIn
import Derived.OrdersIn
set_option linter.unusedVariables false
set_option linter.unusedSimpArgs false
set_option maxRecDepth 100000
set_option maxHeartbeats 16000000
namespace Go.Proofs.YtjomnbdjajjgfaaGreatDoor
variable {a a0:Act} {K:Act->World->Prop} {listed:Array Bool} {cs:Array Value} {from_ l used:List Int} {js:List Nat} {fuel k n:Nat} {ok1 ok2:Nat->Prop} {o:Oper} {a1 a2 a3 a4 a5 vf vu:Value} {w1 w2:World}
section
open Go.RowKit
attribute [local go_sem ↓] Go.wp_at_zero Go.wp_at_succ
theorem CK {w:World} {g:Nat} {a0:Value} (E:g<w1.heap.size) (m0:w1.cell? ⟨g,0,none⟩=some a0) (m1:w1.cell? ⟨g,1,none⟩=some a1) (m2:w1.cell? ⟨g,2,none⟩=some a2) (m3:w1.cell? ⟨g,3,none⟩=some a3) (m4:w1.cell? ⟨g,4,none⟩=some a4) (m5:w1.cell? ⟨g,5,none⟩=some a5) (D:Hid (Below w.heap.size w w1)):
  w1.drew.cell? ⟨g,0,none⟩=some a0/\w1.drew.cell? ⟨g,1,none⟩=some a1/\w1.drew.cell? ⟨g,2,none⟩=some a2/\w1.drew.cell? ⟨g,3,none⟩=some a3/\w1.drew.cell? ⟨g,4,none⟩=some a4/\w1.drew.cell? ⟨g,5,none⟩=some a5/\Hid (Below w.heap.size w w1.drew):=
 ⟨m0,m1,m2,m3,m4,m5,Below.drew D.out⟩
theorem held6 {w:World} {g:Nat} {a0:Value} (E:g<w1.heap.size)
  (h:w1.drew.cell? ⟨g,0,none⟩=some a0/\w1.drew.cell? ⟨g,1,none⟩=some a1/\w1.drew.cell? ⟨g,2,none⟩=some a2/\w1.drew.cell? ⟨g,3,none⟩=some a3/\w1.drew.cell? ⟨g,4,none⟩=some a4/\w1.drew.cell? ⟨g,5,none⟩=some a5/\Hid (Below w.heap.size w w1.drew)) (D:Below w1.drew.heap.size w1.drew w2):
  w2.cell? ⟨g,0,none⟩=some a0/\w2.cell? ⟨g,1,none⟩=some a1/\w2.cell? ⟨g,2,none⟩=some a2/\w2.cell? ⟨g,3,none⟩=some a3/\w2.cell? ⟨g,4,none⟩=some a4/\w2.cell? ⟨g,5,none⟩=some a5/\Hid (Below w.heap.size w w2):=by
 obtain ⟨m0,m1,m2,m3,m4,m5,h⟩:=h;exact ⟨(D.cell E).trans m0,(D.cell E).trans m1,(D.cell E).trans m2,(D.cell E).trans m3,(D.cell E).trans m4,(D.cell E).trans m5,BH h.out D (Fy _)⟩
theorem CU {p:Addr} {v:Value} (h:w1.cell? p=some v) (D:Below w1.heap.size w1 w2):w2.cell? p=some v:=(D.cell (zo h)).trans h
theorem held_and {A B A' B':Prop} (h:A/\B) (f:A->A') (g:B->B'):A'/\B':=⟨f h.1,g h.2⟩
theorem drewn_below {a w':World} (h:Below a.drew.heap.size a.drew w'):Below a.heap.size a w':=((Below.refl a.heap.size a).drew).trans h
structure CQ (w wr:World) (a0 a1 a2 a3 a4 a5:Value):Prop where
 below:Below w.heap.size w wr
 m0:wr.cell? ⟨w.heap.size,0,none⟩=some a0
 m1:wr.cell? ⟨w.heap.size,1,none⟩=some a1
 m2:wr.cell? ⟨w.heap.size,2,none⟩=some a2
 m3:wr.cell? ⟨w.heap.size,3,none⟩=some a3
 m4:wr.cell? ⟨w.heap.size,4,none⟩=some a4
 m5:wr.cell? ⟨w.heap.size,5,none⟩=some a5
theorem BX {ok:Nat->Prop} {v:Value} {m:MZ} (w:World) (hm:zL w ok v m) (hl:Lens m):
  Calls Tryz.prog 60 #[v] w fun e w'=>e=.returned (.int .i64 (AV m))/\Below w.heap.size w w':=by
 have j9:=hm;obtain ⟨vfr,vup,vts,rfl,j6,k7,k6⟩:=hm;obtain ⟨vsf,⟨Af,cf,rfl,i7,g1⟩,f4⟩:=j6;obtain ⟨Au,cu,rfl,l9,k5⟩:=k7;obtain ⟨vst,⟨At,ct,rfl,i9,g3⟩,f5⟩:=k6;obtain ⟨l1,l2,l3,l4⟩:=hl;have e5:=zh g1;clear g1;have e2:=zh f4;clear f4;have i0:=zh g3;clear g3;have g8:=zh f5;clear f5;have h8:=zh l4;clear l4;clear k5 j9
 go_enter Tryz.func60,Tryz.ntmps60
 by_cases hs:[m.w,m.h,m.l].any side=true
 ·have HC:=zh (chk_side hs)
  have h6:(m.w<1)\/(¬ m.w<1/\m.h<1)\/(¬ m.w<1/\¬ m.h<1/\m.l<1)\/(¬ m.w<1/\¬ m.h<1/\¬ m.l<1/\300<m.w)\/(¬ m.w<1/\¬ m.h<1/\¬ m.l<1/\¬ 300<m.w/\300<m.h)\/(¬ m.w<1/\¬ m.h<1/\¬ m.l<1/\¬ 300<m.w/\¬ 300<m.h/\300<m.l):=by
   simp [side] at hs;omega
  clear hs;rcases h6 with h | ⟨h1,h⟩ | ⟨h1,h2,h⟩ | ⟨h1,h2,h3,h⟩ | ⟨h1,h2,h3,h4,h⟩ | ⟨h1,h2,h3,h4,h5,h⟩
  all_goals go_wp2
  all_goals go_ret
  all_goals exact ⟨Bh HC.out.symm,(Below.refl _ _).alloc (Fy _) _⟩
 have b7:[m.w,m.h,m.l].any side=false:=by simpa using hs
 clear hs;obtain ⟨⟨p1,p2⟩,p3,p4⟩:=sides_mul b7;obtain ⟨⟨a1,a2⟩,⟨b1,b2⟩,c1,c2⟩:=sides b7;have HN:=zh b7;clear b7
 have b3:300<m.n\/6<m.tasks.length->AV m=2:=by
  intro h;unfold AV;rw [if_neg (by rw [HN.out];simp),if_pos h]
 have e4:=zh b3;clear b3
 go_wp2_with fail
 refine (AB _ _ _ _ _ _ _ (by omega) (by omega)).mono ?_;rintro e w' ⟨rfl,hb⟩;have c7:ze (w.alloc (.cells #[.int .i64 m.w,.int .i64 m.h,.int .i64 m.l,.slice Af m.free.length cf,.slice Au m.up.length cu,.slice At m.tasks.length ct] 32)) w.heap.size 32 _:=zax _ _;have c8:ze w' w.heap.size 32 _:=c7.below hb (zd c7);have f1:Below w.heap.size w w':=BH ((Below.refl _ _).alloc (Fy _) _) hb (by simp);clear c7 hb;obtain ⟨m0,m1,m2,m3,m4,m5⟩:=zt c8;have g7:=zh c8;clear c8;have Hb1:=zh f1;clear f1;by_cases hn:300<m.w*m.h*m.l
 ·go_wp2;go_ret;exact ⟨Bh (e4.out (.inl hn)).symm,Hb1.out⟩
 by_cases ht:6<m.tasks.length
 ·go_wp2;go_ret;exact ⟨Bh (e4.out (.inr ht)).symm,Hb1.out⟩
 have b0:(m.free.length≠m.tasks.length\/(m.up.length:Int)≠m.n\/m.free.any (fun f=>(f.length:Int) != m.n)=true)->AV m=1:=by
  intro h;unfold AV;rw [if_neg (by rw [HN.out];simp),if_neg (by unfold MZ.n;omega),if_pos h]
 have c0:=zh b0;clear b0;by_cases hf:m.free.length=m.tasks.length
 case neg=>
  have j2:decide ((m.free.length:Int)=(m.tasks.length:Int))=false:=by simp;omega
  have j3:((m.free.length:Int) != (m.tasks.length:Int))=true:=by simp;omega
  have j4:decide (m.free.length=m.tasks.length)=false:=by simp;omega
  have j5:(m.free.length != m.tasks.length)=true:=by simp;omega
  go_wp2_with fail
  go_quiet (fail)
  go_wp2;go_ret;exact ⟨Bh (c0.out (.inl hf)).symm,Du Hb1.out _⟩
 have j2:decide ((m.free.length:Int)=(m.tasks.length:Int))=true:=by simp;omega
 have j3:((m.free.length:Int) != (m.tasks.length:Int))=false:=by simp;omega
 have j4:decide (m.free.length=m.tasks.length)=true:=by simp;omega
 have j5:(m.free.length != m.tasks.length)=false:=by simp;omega
 have HF:=zh hf;clear hf;have D:w.heap.size<w'.heap.size:=zd g7.out
 go_wp2_with fail
 go_region_held3 (fun w'=>w'.cell? ⟨w.heap.size,0,none⟩=some (.int .i64 m.w)/\w'.cell? ⟨w.heap.size,1,none⟩=some (.int .i64 m.h)/\w'.cell? ⟨w.heap.size,2,none⟩=some (.int .i64 m.l)/\w'.cell? ⟨w.heap.size,3,none⟩=some (.slice Af m.free.length cf)/\w'.cell? ⟨w.heap.size,4,none⟩=some (.slice Au m.up.length cu)/\w'.cell? ⟨w.heap.size,5,none⟩=some (.slice At m.tasks.length ct)/\Hid (Below w.heap.size w w'))
  (first | exact CK D m0 m1 m2 m3 m4 m5 Hb1 | exact held6 D (by assumption) E)
  ((go_at_call 41;refine (AB _ _ _ _ _ _ _ (by omega) (by omega)).mono ?_;rintro e w9 ⟨rfl,E⟩))
 rename_i hS
 obtain ⟨m0,m1,m2,m3,m4,m5,V⟩:=hS;have hI:=zh (CQ.mk V.out m0 m1 m2 m3 m4 m5);by_cases hu:(m.up.length:Int)=m.w*m.h*m.l
 case neg=>
  go_wp2;go_ret;exact ⟨Bh (c0.out (.inr (.inl hu))).symm,V.out⟩
 clear m0 m1 m2 m3 m4 m5 E V D;have HU:=zh hu
 go_wp2_with fail
 rename ((m.up.length:Int) != m.w*m.h*m.l)=false=>hq
 clear hu hq;have e7:BG w ok (.slice Af m.free.length cf) m.free:=⟨vsf,⟨Af,cf,rfl,i7,e5.out⟩,e2.out⟩;have l6:=zh e7;clear e7;go_loopw [3] (fun i wr=>∃k:Nat,k<=m.free.length/\i=.int .i64 k/\Hid ((m.free.take k).any (fun f=>(f.length:Int) != m.n)=false)/\Hid (CQ w wr (.int .i64 m.w) (.int .i64 m.h) (.int .i64 m.l) (.slice Af m.free.length cf) (.slice Au m.up.length cu) (.slice At m.tasks.length ct))) (fun i _=>m.free.length - (intOf i).toNat)
 case atStart=>exact ⟨0,by omega,rfl,by simp [Hid],hI⟩
 clear hI
 case round=>
  obtain ⟨k,hk,rfl,hn,hI⟩:=hrel;obtain ⟨Hb1,m0,m1,m2,m3,m4,m5⟩:=hI;have Hb1:=zh Hb1;have D:=zo m0;by_cases M:k<m.free.length
  ·obtain ⟨b,off,u,rfl,_,I,hu⟩:=AW (e5.out.keep (Ao.of_below Hb1.out)) e2.out M M;obtain ⟨x,O⟩:=zaI (m.free[k]);rw [<-O] at hu;obtain ⟨Ax,cx,rfl,m7,_⟩:=hu;have G:=zh (BA (fun f=>(f.length:Int) != m.n) M);rw [<-O] at G;have HM:=zh (show x∈m.free by rw [O];exact Fz _);clear O
   go_wp2_with fail
   go_region_held3 (fun w'=>(w'.cell? ⟨w.heap.size,0,none⟩=some (.int .i64 m.w)/\w'.cell? ⟨w.heap.size,1,none⟩=some (.int .i64 m.h)/\w'.cell? ⟨w.heap.size,2,none⟩=some (.int .i64 m.l)/\w'.cell? ⟨w.heap.size,3,none⟩=some (.slice (some ⟨b,off,none⟩) m.free.length cf)/\w'.cell? ⟨w.heap.size,4,none⟩=some (.slice Au m.up.length cu)/\w'.cell? ⟨w.heap.size,5,none⟩=some (.slice At m.tasks.length ct)/\Hid (Below w.heap.size w w'))/\w'.cell? ⟨b,off+k,none⟩=some (.slice Ax x.length cx))
    (first | exact ⟨CK D m0 m1 m2 m3 m4 m5 Hb1,I⟩ | exact held_and (by assumption) (fun h=>held6 D h E) (fun h=>CU h E))
    ((go_at_call 41;refine (AB _ _ _ _ _ _ _ (by omega) (by omega)).mono ?_;rintro e w9 ⟨rfl,E⟩))
   rename_i hS
   obtain ⟨⟨m0,m1,m2,m3,m4,m5,V⟩,_⟩:=hS;have hI:=zh (CQ.mk V.out m0 m1 m2 m3 m4 m5);clear E V;by_cases O:(x.length:Int)=m.w*m.h*m.l
   ·have HX:=zh O;go_wp2;clear O;go_roundw
    case rel=>exact ⟨k+1,by omega,by go_num,by
     show _=false;rw [G.out,hn.out];show (false || ((x.length:Int) != m.w*m.h*m.l))=false;rw [HX.out];simp,hI⟩
    case measure=>simp [intOf];omega
   ·have HX:=zh O;go_wp2;go_ret
    exact ⟨Bh (c0.out (.inr (.inr (zaE.2 ⟨x,HM.out,by
     show ((x.length:Int) != m.w*m.h*m.l)=true;simpa using HX.out⟩)))).symm,hI.out.below⟩
  ·obtain rfl:k=m.free.length:=by omega
   have ha:m.free.any (fun f=>(f.length:Int) != m.n)=false:=by have h:=hn.out;rwa [FJ] at h
   have HA:=zh ha;clear ha hn;have hI:=zh (CQ.mk Hb1.out m0 m1 m2 m3 m4 m5);have e8:Cv w ok (.slice At m.tasks.length ct) m.tasks:=⟨vst,⟨At,ct,rfl,i9,i0.out⟩,g8.out⟩;have i2:=zh e8;clear e8
   go_wp2_with fail
   clear m0 m1 m2 m3 m4 m5 Hb1 D;go_loopw [4] (fun i wr=>∃k:Nat,k<=m.tasks.length/\i=.int .i64 k/\Hid ((m.tasks.take k).any (fun t=>t.1.any (Ar m.n) || t.2.any (Ar m.n))=false)/\Hid (CQ w wr (.int .i64 m.w) (.int .i64 m.h) (.int .i64 m.l) (.slice Af m.free.length cf) (.slice Au m.up.length cu) (.slice At m.tasks.length ct))) (fun i _=>m.tasks.length - (intOf i).toNat)
   case atStart=>exact ⟨0,by omega,rfl,by simp [Hid],hI⟩
   clear hI
   case round=>
    obtain ⟨k,hk,rfl,hn,hI⟩:=hrel;obtain ⟨Hb1,m0,m1,m2,m3,m4,m5⟩:=hI;have Hb1:=zh Hb1;have D:=zo m0;by_cases M:k<m.tasks.length
    ·obtain ⟨b,off,sn,u1,u2,rfl,_,i6,a7,a8,d5,d6⟩:=Bz (i2.out.below Hb1.out) M;obtain ⟨t,b5⟩:=zaI (m.tasks[k]);rw [<-b5] at d5 d6;obtain ⟨j7,j8⟩:=h8.out _ (Fz M);rw [<-b5] at j7 j8;have g9:=zh d5;clear d5;have h7:=zh d6;clear d6;have G:=zh (BA (fun t=>t.1.any (Ar m.n) || t.2.any (Ar m.n)) M);rw [<-b5] at G;have HM:=zh (show t∈m.tasks by rw [b5];exact Fz _);clear b5
     have b9:∀x,x∈[]++t.1++t.2->Ar m.n x=true->AV m=50:=by
      intro x O h
      have ht:(t.1.any (Ar m.n) || t.2.any (Ar m.n))=true:=by
       rw [<-List.any_append];exact zaE.2 ⟨x,by simpa using O,h⟩
      unfold AV;rw [if_neg (by rw [HN.out];simp),if_neg (by unfold MZ.n;omega),if_neg (by rw [HA.out,HF.out,HU.out];simp [MZ.n]),if_pos (zaE.2 ⟨t,HM.out,ht⟩)]
     have a6:=zh b9;clear b9
     go_wp2_with fail
     have i4:w.heap.size<=wr.heap.size:=Hb1.out.size
     go_region_held3 (fun w'=>(w'.cell? ⟨w.heap.size,0,none⟩=some (.int .i64 m.w)/\w'.cell? ⟨w.heap.size,1,none⟩=some (.int .i64 m.h)/\w'.cell? ⟨w.heap.size,2,none⟩=some (.int .i64 m.l)/\w'.cell? ⟨w.heap.size,3,none⟩=some (.slice Af m.free.length cf)/\w'.cell? ⟨w.heap.size,4,none⟩=some (.slice Au m.up.length cu)/\w'.cell? ⟨w.heap.size,5,none⟩=some (.slice (some ⟨b,off,none⟩) m.tasks.length ct)/\Hid (Below w.heap.size w w'))/\w'.cell? ⟨b,off+k*3+1,none⟩=some u1/\w'.cell? ⟨b,off+k*3+2,none⟩=some u2)
      (first | (exact ⟨CK D m0 m1 m2 m3 m4 m5 Hb1,a7,a8⟩) | (exact ⟨held6 D (CK D m0 m1 m2 m3 m4 m5 Hb1) b6,CU (w1:=wr.drew) a7 b6,CU (w1:=wr.drew) a8 b6⟩) | (exact ⟨held6 D (CK D m0 m1 m2 m3 m4 m5 Hb1) J,CU (w1:=wr.drew) a7 J,CU (w1:=wr.drew) a8 J⟩) | (exact ⟨held6 D (CK D m0 m1 m2 m3 m4 m5 Hb1) ((Below.refl _ _).alloc (Fy _) _),CU (w1:=wr.drew) a7 ((Below.refl _ _).alloc (Fy _) _),CU (w1:=wr.drew) a8 ((Below.refl _ _).alloc (Fy _) _)⟩))
      (first | (refine zE (ok:=ok) (by rfl) _ _ _ (by rfl) wr.heap.size [] t.1 _ _ (by rfl) (by rfl) (Bw wr.drew wr.heap.size (Fy _)) (g9.out.keep (Ao.of_below (w:=wr) ((Below.drew (Below.refl _ _)).alloc (Fy _) _))) (by simp) (by simp;omega) ?_;intro v1 w1 d8 f6 e9;have J:Below wr.drew.heap.size wr.drew w1:=(zK ((Below.refl _ _).alloc (Fy _) _) f6 (by simp) (fun k hk=>Ad (Bw wr.drew wr.heap.size (Fy _)) hk))) | (refine zE (ok:=ok) (by rfl) _ _ _ (by rfl) wr.heap.size ([]++t.1) t.2 _ _ (by rfl) (by rfl) d8 (h7.out.keep (Ao.of_below (w:=wr.drew) J)) J.size (by simp;omega) ?_;intro v2 w2 g0 f7 f0;have b6:Below wr.drew.heap.size wr.drew w2:=(zK J f7 J.size (fun k hk=>Ad d8 hk))))
     rename_i hS
     obtain ⟨⟨m0,m1,m2,m3,m4,m5,V⟩,_,_⟩:=hS;have hI:=zh (CQ.mk V.out m0 m1 m2 m3 m4 m5);have e3:=zh (g0.mono i4:zQ w2 w.heap.size v2 ([]++t.1++t.2));clear J b6 f6 e9 d8 g0 f7 f0 i6 a7 a8 m0 m1 m2 m3 m4 m5 V D Hb1;obtain ⟨all,U⟩:=zaI ([]++t.1++t.2);rw [<-U] at e3 a6;have m9:all.length<=800000000000:=by rw [U];simp;omega
     have e1:=zh U;clear U;obtain ⟨Av,cv,rfl,m6,g4⟩:=AS.of_own e3.out;have i1:=zh g4;clear g4
     go_wp2_with fail
     go_loopw [6] (fun i wi=>∃j:Nat,j<=all.length/\i=.int .i64 j/\Hid ((all.take j).any (Ar m.n)=false)/\Hid (Below w2.heap.size w2 wi)/\Hid (CQ w wi (.int .i64 m.w) (.int .i64 m.h) (.int .i64 m.l) (.slice Af m.free.length cf) (.slice Au m.up.length cu) (.slice (some ⟨b,off,none⟩) m.tasks.length ct))) (fun i _=>all.length - (intOf i).toNat)
     case atStart=>exact ⟨0,by omega,rfl,by simp [Hid],Below.refl _ _,hI⟩
     clear hI
     case round=>
      obtain ⟨j,hj,rfl,f9,f2,hI⟩:=hrel;obtain ⟨wi,rfl⟩:∃wi:World,wi=wr:=⟨_,rfl⟩;obtain ⟨Hb1,m0,m1,m2,m3,m4,m5⟩:=hI;have Hb1:=zh Hb1;have D:=zo m0;by_cases d7:j<all.length
      ·obtain ⟨bv,ov,rfl,_,I⟩:=Ai (i1.out.keep (Ao.of_below f2.out)) d7 d7;obtain ⟨x,O⟩:=zaI (all[j]);rw [<-O] at I;have b4:=zh (BA (Ar m.n) d7);rw [<-O] at b4;have e6:=zh (show x∈all by rw [O];exact Fz _);clear O;by_cases b8:x<0
       ·have hd:decide (x<0)=true:=by simpa using b8
        go_wp2_with fail
        go_quiet (fail)
        go_wp2;go_ret;exact ⟨Bh (a6.out x e6.out (by unfold Ar;rw [hd];rfl)).symm,Du Hb1.out _⟩
       ·have hd:decide (x<0)=false:=by simpa using b8
        go_wp2_with fail
        go_region_held3 (fun w'=>(w'.cell? ⟨w.heap.size,0,none⟩=some (.int .i64 m.w)/\w'.cell? ⟨w.heap.size,1,none⟩=some (.int .i64 m.h)/\w'.cell? ⟨w.heap.size,2,none⟩=some (.int .i64 m.l)/\w'.cell? ⟨w.heap.size,3,none⟩=some (.slice Af m.free.length cf)/\w'.cell? ⟨w.heap.size,4,none⟩=some (.slice Au m.up.length cu)/\w'.cell? ⟨w.heap.size,5,none⟩=some (.slice (some ⟨b,off,none⟩) m.tasks.length ct)/\Hid (Below w.heap.size w w'))/\w'.cell? ⟨bv,ov+j,none⟩=some (.int .i64 x))
         (first | exact ⟨CK D m0 m1 m2 m3 m4 m5 Hb1,I⟩ | exact held_and (by assumption) (fun h=>held6 D h E) (fun h=>CU h E))
         ((go_at_call 41;refine (AB _ _ _ _ _ _ _ (by omega) (by omega)).mono ?_;rintro e w9 ⟨rfl,E⟩))
        rename_i hS
        obtain ⟨⟨m0,m1,m2,m3,m4,m5,V⟩,_⟩:=hS;have hI:=zh (CQ.mk V.out m0 m1 m2 m3 m4 m5);have f3:Hid (Below w2.heap.size w2 w9):=BH f2.out (drewn_below E) (Fy _);clear E V;by_cases d9:x<m.w*m.h*m.l
        ·have HX:=zh d9;have i3:=zh b8;go_wp2;clear d9 b8 hd;go_roundw
         case rel=>exact ⟨j+1,by omega,by go_num,by
          show _=false;rw [b4.out,f9.out];have h1:¬ m.w*m.h*m.l<=x:=by have:=HX.out;omega
          have h2:¬ x<0:=by have:=i3.out;omega
          show (false || (decide (x<0) || decide (m.w*m.h*m.l<=x)))=false;rw [FC h1,FC h2];rfl,f3,hI⟩
         case measure=>simp [intOf];omega
        ·have HX:=zh d9;go_wp2;go_ret
         exact ⟨Bh (a6.out x e6.out (by
          have h1:m.w*m.h*m.l<=x:=by have:=HX.out;omega
          show (decide (x<0) || decide (m.w*m.h*m.l<=x))=true;rw [FB h1,Bool.or_true])).symm,hI.out.below⟩
      ·obtain rfl:j=all.length:=by omega
       go_wp2;go_roundw
       case rel=>exact ⟨k+1,by omega,by go_num,by
        show _=false;have h:=f9.out;rw [FJ,e1.out,List.nil_append,List.any_append] at h;rw [G.out,hn.out];exact h,⟨Hb1.out,m0,m1,m2,m3,m4,m5⟩⟩
       case measure=>simp [intOf];omega
    ·obtain rfl:k=m.tasks.length:=by omega
     go_wp2;go_ret;refine ⟨Bh ?_,Hb1.out⟩;have hn:=hn.out;rw [FJ] at hn;unfold AV;rw [if_neg (by rw [HN.out];simp),if_neg (by unfold MZ.n;omega),if_neg (by rw [HA.out,HF.out,HU.out];simp [MZ.n]),if_neg (by rw [hn];simp)]
structure zZ (m:MZ):Prop where
 dim:Dim m
 fl:m.free.length=m.tasks.length
 fn:∀f∈m.free,(f.length:Int)=m.n
 tk:m.tasks.length<=6
 tn:∀t∈m.tasks,∀x,x∈t.1\/x∈t.2->0<=x/\x<m.n
theorem zZ.of {m:MZ} (h:AV m=0):zZ m:=by
 unfold AV at h
 split at h
 ·cases h
 ·rename_i h1
  have E:[m.w,m.h,m.l].any side=false:=by simpa using h1
  obtain ⟨⟨a1,a2⟩,⟨b1,b2⟩,c1,c2⟩:=sides E
  split at h
  ·cases h
  ·rename_i h2
   split at h
   ·cases h
   ·rename_i h3
    split at h
    ·cases h
    ·rename_i h4
     have D:m.n<=300/\m.tasks.length<=6:=by omega
     have G:m.free.length=m.tasks.length:=by
      by_cases h:m.free.length=m.tasks.length
      ·exact h
      ·exact absurd (.inl h) h3
     have I:(m.up.length:Int)=m.n:=by
      by_cases h:(m.up.length:Int)=m.n
      ·exact h
      ·exact absurd (.inr (.inl h)) h3
     have J:∀f∈m.free,(f.length:Int)=m.n:=by
      intro f hf;by_cases h:(f.length:Int)=m.n
      ·exact h
      ·exact absurd (.inr (.inr (zaE.2 ⟨f,hf,by simpa using h⟩))) h3
     refine ⟨⟨a1,a2,b1,b2,c1,c2,D.1,I⟩,G,J,D.2,fun t ht x hx=>?_⟩;by_cases M:Ar m.n x=true
     ·exfalso
      apply h4;refine zaE.2 ⟨t,ht,?_⟩;rw [zaD];rcases hx with hx | hx
      ·exact .inl (zaE.2 ⟨x,hx,M⟩)
      ·exact .inr (zaE.2 ⟨x,hx,M⟩)
     ·simp [Ar] at M;omega
theorem zZ.n1 {m:MZ} (g:zZ m):1<=m.w*m.h*m.l:=by have:=g.dim.layer;omega
def nextO (m:MZ) (node:Int):List Int:=if AV m=0/\0<=node/\node<m.n then zp m node else []
open Classical in
noncomputable def Dq (m:MZ) (t:Int) (from_ used:List Int):List Int:=if AV m=0/\0<=t/\t<m.tasks.length then Cq m t.toNat from_ used else []
theorem qReach_calls {ok:Nat->Prop} {v:Value} {m:MZ} (t:Int) (w:World) (hm:zL w ok v m) (hl:Lens m) (hf:zg w ok1 vf from_) (a8:from_.length<=20000000000000) (hu:zg w ok2 vu used) (a9:used.length<=20000000000000):
  Calls Tryz.prog 120 #[v,.int .i64 t,vf,vu] w fun e w'=>∃v',e=.returned v'/\Mk w w' v' (Dq m t from_ used):=by
 have U:=hm;obtain ⟨vfr,vup,vts,rfl,a7,_,b1⟩:=hm;obtain ⟨vst,⟨At,ct,rfl,c6,_⟩,_⟩:=b1;have M:=zh U;clear U;have HL:=zh hl;obtain ⟨l1,l2,l3,l4⟩:=hl;clear l4 a7;have HF:=zh hf;clear hf;have HU:=zh hu;clear hu
 go_enter Tryz.func120,Tryz.ntmps120
 go_wp2_with fail
 generalize J:w.alloc (.cells #[.int .i64 m.w,.int .i64 m.h,.int .i64 m.l,vfr,vup,.slice At m.tasks.length ct] 32)=w1;have D:za w w1:=by rw [<-J];exact (za.refl w).alloc _
 have O:ze w1 w.heap.size 32 #[.int .i64 m.w,.int .i64 m.h,.int .i64 m.l,vfr,vup,.slice At m.tasks.length ct]:=by rw [<-J];exact zax _ _
 clear J;obtain ⟨m0,m1,m2,m3,m4,m5⟩:=zt O;have r0:=za.rule m0;have r1:=za.rule m1;have r2:=za.rule m2;have r3:=za.rule m3;have r4:=za.rule m4;have r5:=za.rule m5;clear m0 m1 m2 m3 m4 m5 O;have ra:=Dn w1;have hx:za w1 w1:=za.refl w1
 go_wp2_with fail
 refine (BX w1 (M.out.below D) HL.out).mono ?_;rintro e wA ⟨rfl,a6⟩;have E:za w1 wA:=a6;clear hx;by_cases I:AV m=0
 case neg=>
  have hd:(AV m != 0)=true:=by simpa using I
  have V:=zh I;clear I;go_wp2;go_ret;exact ⟨_,rfl,(D.trans E).mono_mk (Mk.cast (Mk.nil _) (by unfold Dq;rw [if_neg (fun h=>V.out h.1)]))⟩
 have hd:(AV m != 0)=false:=by simpa using I
 have G:=zh (zZ.of I);have V:=zh I;clear I;obtain ⟨c8,c9⟩:=G.out.dim.layer;have d5:=G.out.dim.n1;by_cases h0:0<=t
 case neg=>
  go_wp2;go_ret;exact ⟨_,rfl,(D.trans E).mono_mk (Mk.cast (Mk.nil _) (by unfold Dq;rw [if_neg (fun h=>by have:=h.2.1;omega)]))⟩
 by_cases h1:t<m.tasks.length
 case neg=>
  have c0:(m.tasks.length:Int)<=t:=by omega
  go_wp2;go_ret;exact ⟨_,rfl,(D.trans E).mono_mk (Mk.cast (Mk.nil _) (by unfold Dq;rw [if_neg (fun h=>by have:=h.2.2;omega)]))⟩
 obtain ⟨tn,rfl⟩:∃tn:Nat,t=tn:=⟨t.toNat,by omega⟩;have b0:tn<m.free.length:=by have:=G.out.fl;omega
 have b5:tn<m.tasks.length:=by omega
 go_wp2_with fail
 refine (EK tn _ (M.out.below (D.trans E)) G.out.dim b0 G.out.fn (HF.out.below (D.trans E)) a8 (HU.out.below (D.trans E)) a9).mono ?_;rintro e wC ⟨v',rfl,hM⟩;have HM:=zh hM;clear hM;have d7:za w1 wC:=E.trans HM.out.ext
 go_wp2_with fail
 go_ret;exact ⟨_,rfl,(D.trans E).mono_mk (HM.out.cast (by unfold Dq;rw [if_pos ⟨V.out,by omega,by omega⟩];rfl))⟩
theorem rReach_calls {ok:Nat->Prop} {v:Value} {m:MZ} (t:Int) (w:World) (hm:zL w ok v m) (hl:Lens m) (hf:zg w ok1 vf from_) (e4:from_.length<=20000000000000) (hu:zg w ok2 vu used) (e6:used.length<=20000000000000):
  Calls Tryz.prog 170 #[v,.int .i64 t,vf,vu] w fun e w'=>∃v',e=.returned v'/\Mk w w' v' (Dq m t from_ used):=by
 have c0:=hm;obtain ⟨vfr,vup,vts,rfl,e2,_,e8⟩:=hm;obtain ⟨vst,⟨At,ct,rfl,g4,_⟩,_⟩:=e8;have b2:=zh c0;clear c0;have HL:=zh hl;obtain ⟨l1,l2,l3,l4⟩:=hl;clear l4 e2;have HF:=zh hf;clear hf;have HU:=zh hu;clear hu
 go_enter Tryz.func170,Tryz.ntmps170
 go_wp2_with fail
 generalize b1:w.alloc (.cells #[.int .i64 m.w,.int .i64 m.h,.int .i64 m.l,vfr,vup,.slice At m.tasks.length ct] 32)=w1;have E:za w w1:=by rw [<-b1];exact (za.refl w).alloc _
 have b6:ze w1 w.heap.size 32 #[.int .i64 m.w,.int .i64 m.h,.int .i64 m.l,vfr,vup,.slice At m.tasks.length ct]:=by rw [<-b1];exact zax _ _
 clear b1;obtain ⟨m0,m1,m2,m3,m4,m5⟩:=zt b6;have r0:=za.rule m0;have r1:=za.rule m1;have r2:=za.rule m2;have r3:=za.rule m3;have r4:=za.rule m4;have r5:=za.rule m5;clear m0 m1 m2 m3 m4 m5 b6;have ra:=Dn w1;have hx:za w1 w1:=za.refl w1
 go_wp2_with fail
 refine (BQ w1 (b2.out.below E) HL.out).mono ?_;rintro e wA ⟨rfl,e0⟩;have D:za w1 wA:=e0;clear hx;by_cases hc:AV m=0
 case neg=>
  have hd:(AV m != 0)=true:=by simpa using hc
  have HC:=zh hc;clear hc;go_wp2;go_ret;exact ⟨_,rfl,(E.trans D).mono_mk (Mk.cast (Mk.nil _) (by unfold Dq;rw [if_neg (fun h=>HC.out h.1)]))⟩
 have hd:(AV m != 0)=false:=by simpa using hc
 have G:=zh (zZ.of hc);have HC:=zh hc;clear hc;obtain ⟨g7,g8⟩:=G.out.dim.layer;have g9:=G.out.dim.n1;by_cases h0:0<=t
 case neg=>
  go_wp2;go_ret;exact ⟨_,rfl,(E.trans D).mono_mk (Mk.cast (Mk.nil _) (by unfold Dq;rw [if_neg (fun h=>by have:=h.2.1;omega)]))⟩
 by_cases h1:t<m.tasks.length
 case neg=>
  have g0:(m.tasks.length:Int)<=t:=by omega
  go_wp2;go_ret;exact ⟨_,rfl,(E.trans D).mono_mk (Mk.cast (Mk.nil _) (by unfold Dq;rw [if_neg (fun h=>by have:=h.2.2;omega)]))⟩
 obtain ⟨tn,rfl⟩:∃tn:Nat,t=tn:=⟨t.toNat,by omega⟩;have e7:tn<m.free.length:=by have:=G.out.fl;omega
 have f4:tn<m.tasks.length:=by omega
 go_wp2_with fail
 have h6:=zh D
 go_region_held3 (fun w'=>za w1 w'/\za wA w')
  (first | (exact Ep D) | (exact held_ext (Ep D) J) | (exact held_ext (held_ext (Ep D) J) b4))
  (first | ((go_at_call 217;refine (setOf_calls _ (HU.out.keep (Ao.of_below (E.trans D.drew))) e6).mono ?_;rintro e w8 ⟨s8,rfl,J,c7,O⟩)) | ((go_at_call 206;refine (reach_calls tn _ (b2.out.keep (Ao.of_below (E.trans (D.drew.trans J)))) G.out.dim e7 G.out.fn (HF.out.keep (Ao.of_below (E.trans (D.drew.trans J)))) e4 c7).mono ?_;rintro e w9 ⟨s9,rfl,b4,c8,a6⟩)))
 rename_i hS
 have e9:=hS.1;have V:=zh c8;clear c8;have hE:=zh (reachL_of (used:=used) (fun x=>(a6 x).trans ⟨fun h=>h.congr (fun _=>Iff.rfl) O,fun h=>h.congr (fun _=>Iff.rfl) (fun y=>(O y).symm)⟩));clear a6;have b7:w8.heap.size+1<w9.heap.size:=zd V.out;obtain ⟨gs,M⟩:∃gs,gs=w8.heap.size+1:=⟨_,rfl⟩;rw [<-M] at V b7;have HG:=zh M;clear J c7 O hS
 go_wp2_with fail
 rw [<-HG.out];clear M b4;refine (Bi _ _ _ _ _ _ _ (by omega) (by omega)).mono ?_;rintro e wB ⟨rfl,a9⟩;have f0:za w1 wB:=e9.trans a9;have d7:=zh (V.out.below a9);clear V b7 a9;obtain ⟨N,hN⟩:∃N:Nat,m.w*m.h*m.l=(N:Int):=⟨(m.w*m.h*m.l).toNat,by omega⟩;have HN:=zh hN;clear hN;have g3:N<=300:=by have h:=HN.out;have:=G.out.dim.n1;omega
 have b3:=zh (Mk.nil wB);rw [HN.out]
 go_wp2_with fail
 go_loopw [9,34] (fun v i wr=>∃k:Nat,k<=N/\i=.int .i64 (k:Nat)/\Hid (Mk wB wr v (((List.range k).map Int.ofNat).filter (fun x=>decide (x∈s9))))) (fun _ i _=>N - (intOf i).toNat)
 case atStart=>exact ⟨0,by omega,rfl,b3⟩
 clear b3
 case round=>
  obtain ⟨j,hj,rfl,hM⟩:=hrel;by_cases g6:j<N
  ·have U:((List.range (j+1)).map Int.ofNat).filter (fun x=>decide (x∈s9))=((List.range j).map Int.ofNat).filter (fun x=>decide (x∈s9))++[(j:Int)].filter (fun x=>decide (x∈s9)):=by
    rw [List.range_succ,za2,zay];rfl
   have HS:=zh U;clear U;have hset:=d7.out.below hM.out.ext;by_cases I:(j:Int)∈s9
   ·have e5:=look_t hset I;have a7:=zh I;clear I;have b8:(((List.range j).map Int.ofNat).filter (fun x=>decide (x∈s9))).length<=j:=FA (zan _ _) (by simp);obtain ⟨lj,b9⟩:=zaI (((List.range j).map Int.ofNat).filter (fun x=>decide (x∈s9)));rw [<-b9] at hM b8 HS;clear b9;have h7:=hM.out.ext.size
    go_wp2_with (at_builtin;refine AZ rfl _ _ rfl _ lj (j:Int) wB.heap.size wr.heap.size 1 _ rfl rfl (hM.out.own.alloc _) ?d1 ?d2 ?d3 ?_)
    (try case d1=>exact zy _ _ _ (by simp))
    case d2=>(first | (simp;done) | (simp;omega) | omega)
    case d3=>omega
    intro v' wb c6 b5 e1;have d8:=zh ((hM.out.alloc _).app c6 b5);clear c6 b5 e1;go_wp2;go_roundw
    case rel=>exact ⟨j+1,by omega,by go_num,by rw [HS.out,za4 (by simpa using a7.out)];exact d8⟩
    case measure=>simp [intOf];omega
   ·have e5:=look_f hset I;have a7:=zh I;clear I;go_wp2;go_roundw
    case rel=>exact ⟨j+1,by omega,by go_num,by rw [HS.out,zas (by simpa using a7.out),List.filter_nil,List.append_nil];exact hM⟩
    case measure=>simp [intOf];omega
  ·have e3:j=N:=by omega
   subst e3
   go_wp2_with fail
   go_ret;refine ⟨_,rfl,(E.trans f0).mono_mk (hM.out.cast ?_)⟩;have d9:m.n.toNat=j:=by have:m.n=(j:Int):=HN.out;omega
   unfold Dq;rw [if_pos ⟨HC.out,by omega,by omega⟩,za1,<-hE.out,d9]
def stCells (m:MZ) (f u t vc vp:Value) (gu:Nat):Array Value:=#[.int .i64 m.w,.int .i64 m.h,.int .i64 m.l,f,u,t,vc,vp,.map (some gu)]
structure BN (w:World) (ok:Nat->Prop) (g:Nat) (m:MZ) (ch:List Int) (ps:List (List Int)) (us:List Int) (f u t vc vp:Value) (gu:Nat):Prop where
 blk:ze w g 207 (stCells m f u t vc vp gu)
 okg:ok g
 maze:zL w ok (.agg #[.int .i64 m.w,.int .i64 m.h,.int .i64 m.l,f,u,t]) m
 ch:zg w ok vc ch
 ps:zU w ok vp ps
 oku:ok gu
 us:zW w gu us
def DP (w:World) (ok:Nat->Prop) (v:Value) (m:MZ) (ch:List Int) (ps:List (List Int)) (us:List Int):Prop:=
 ∃g f u t vc vp gu,v=.pointer (some ⟨g,0,none⟩)/\BN w ok g m ch ps us f u t vc vp gu
section
variable {w w':World} {ok ok':Nat->Prop} {v f u t vc vp:Value} {m:MZ} {ch us:List Int} {ps:List (List Int)} {g gu:Nat}
theorem BN.keep (h:BN w ok g m ch ps us f u t vc vp gu) (D:Ao ok w w'):BN w' ok g m ch ps us f u t vc vp gu:=
 ⟨(D g h.okg (zd h.blk)).trans h.blk,h.okg,h.maze.keep D,h.ch.keep D,h.ps.keep D,h.oku,h.us.keep D h.oku⟩
theorem BN.weaken (h:BN w ok g m ch ps us f u t vc vp gu) (D:∀b,ok b->ok' b):BN w ok' g m ch ps us f u t vc vp gu:=
 ⟨h.blk,D _ h.okg,h.maze.weaken D,h.ch.weaken D,h.ps.weaken D,D _ h.oku,h.us⟩
theorem DP.keep (h:DP w ok v m ch ps us) (D:Ao ok w w'):DP w' ok v m ch ps us:=by
 obtain ⟨g,f,u,t,vc,vp,gu,e,h⟩:=h;exact ⟨g,f,u,t,vc,vp,gu,e,h.keep D⟩
theorem DP.weaken (h:DP w ok v m ch ps us) (D:∀b,ok b->ok' b):DP w ok' v m ch ps us:=by
 obtain ⟨g,f,u,t,vc,vp,gu,e,h⟩:=h;exact ⟨g,f,u,t,vc,vp,gu,e,h.weaken D⟩
theorem DP.below (h:DP w ok v m ch ps us) (D:Below w.heap.size w w'):DP w' ok v m ch ps us:=h.keep (Ao.of_below D)
theorem BN.ext (h:BN w ok g m ch ps us f u t vc vp gu) (D:za w w'):BN w' ok g m ch ps us f u t vc vp gu:=h.keep (Ao.of_below D)
theorem BN.rules (h:BN w ok g m ch ps us f u t vc vp gu):
  (∀W,za w W->W.cell? ⟨g,0,none⟩=some (.int .i64 m.w))/\(∀W,za w W->W.cell? ⟨g,1,none⟩=some (.int .i64 m.h))/\(∀W,za w W->W.cell? ⟨g,2,none⟩=some (.int .i64 m.l))/\
  (∀W,za w W->W.cell? ⟨g,3,none⟩=some f)/\(∀W,za w W->W.cell? ⟨g,4,none⟩=some u)/\(∀W,za w W->W.cell? ⟨g,5,none⟩=some t)/\
  (∀W,za w W->W.cell? ⟨g,6,none⟩=some vc)/\(∀W,za w W->W.cell? ⟨g,7,none⟩=some vp)/\(∀W,za w W->W.cell? ⟨g,8,none⟩=some (.map (some gu))):=by
 have E:=h.blk;unfold ze stCells at E
 have D:∀k x,(#[Value.int .i64 m.w,.int .i64 m.h,.int .i64 m.l,f,u,t,vc,vp,.map (some gu)]:Array Value)[k]?=some x->w.cell? ⟨g,k,none⟩=some x:=by
  intro k x G;unfold World.cell?;simp only [E];exact G
 exact ⟨za.rule (D 0 _ rfl),za.rule (D 1 _ rfl),za.rule (D 2 _ rfl),za.rule (D 3 _ rfl),za.rule (D 4 _ rfl),za.rule (D 5 _ rfl),za.rule (D 6 _ rfl),za.rule (D 7 _ rfl),za.rule (D 8 _ rfl)⟩
end
structure SOk (m:MZ) (ch:List Int) (ps:List (List Int)):Prop where
 good:zZ m
 lens:Lens m
 pl:ps.length<=m.tasks.length
 pn:0<m.tasks.length->0<ps.length
 pp:∀p∈ps,p.length<=1000
 pr:∀p∈ps,∀x∈p,0<=x/\x<m.n
 cl:ch.length<=1000
def finB (m:MZ) (ps:List (List Int)):Bool:=
 match (ps.getD (ps.length - 1) []).getLast? with
 | none=>false
 | some x=>decide (x∈(m.tasks.getD (ps.length - 1) ([],[])).2)
def cmpB (m:MZ) (ps:List (List Int)):Bool:=decide (m.tasks.length=0) || (decide (ps.length=m.tasks.length) && finB m ps)
theorem DV {w:World}:za w w.drew:=(za.refl w).drew
theorem Bp {ok:Nat->Prop} {m:MZ} {ch us:List Int} {ps:List (List Int)} {g gu:Nat} {f u t vc vp:Value} (w:World) (h:BN w ok g m ch ps us f u t vc vp gu) (E:ps.length<=20000000000000):
  Calls Tryz.prog 199 #[.pointer (some ⟨g,0,none⟩)] w fun e w'=>e=.returned (.int .i64 ((ps.length:Int) - 1))/\w=w':=by
 obtain ⟨r0,r1,r2,r3,r4,r5,r6,r7,r8⟩:=h.rules;obtain ⟨vs,⟨Ap,cp,rfl,D,_⟩,_⟩:=h.ps;clear h;have G:=za.refl w
 go_enter Tryz.func199,Tryz.ntmps199
 go_wp2;go_ret;exact ⟨rfl,rfl⟩
theorem EY {ok:Nat->Prop} {m:MZ} {ch us:List Int} {ps:List (List Int)} {g gu:Nat} {f u t vc vp:Value} (w:World) (h:BN w ok g m ch ps us f u t vc vp gu) (so:SOk m ch ps) (hp:0<ps.length):
  Calls Tryz.prog 204 #[.pointer (some ⟨g,0,none⟩)] w fun e w'=>e=.returned (.bool (finB m ps))/\zT w w':=by
 obtain ⟨r0,r1,r2,r3,r4,r5,r6,r7,r8⟩:=h.rules;have e3:=h.ps;have e2:=h.maze;have HS:=zh h;clear h;obtain ⟨vs,⟨Ap,cp,rfl,e9,c7⟩,b4⟩:=e3;obtain ⟨fr',up',ts',he,_,_,b1⟩:=e2;injection he with he;injection he with he;simp only [List.cons.injEq,and_true,true_and] at he;obtain ⟨rfl,rfl,rfl⟩:=he;have e5:=b1;obtain ⟨vst,⟨At,ct,rfl,f0,_⟩,_⟩:=e5;have hk:ps.length - 1<ps.length:=by omega
 obtain ⟨b,off,up,rfl,_,G,c9⟩:=AW c7 b4 hk hk;have I:ps.length - 1<m.tasks.length:=by have:=so.pl;omega
 obtain ⟨bt,offt,sn,u1,u2,rfl,_,e0,b2,a8,b5,a9⟩:=Bz b1 I;have c8:=so.lens;have f3:=so.pl;have f9:=so.good.tk;have U:=so.pp _ (Fz hk);have b9:=(c8.tl _ (Fz I)).2;clear c8 c7 b4 b1
 have E:finB m ps=match (ps[ps.length - 1]).getLast? with | none=>false | some x=>decide (x∈(m.tasks[ps.length - 1]).2):=by
  unfold finB;simp [hk,I]
 obtain ⟨p,c0⟩:=zaI (ps[ps.length - 1]);obtain ⟨tk,a6⟩:=zaI (m.tasks[ps.length - 1]);rw [<-c0] at c9 U E;rw [<-a6] at b5 a9 b9 E;clear c0 a6 b5;have d8:=zh a9;clear a9;have HF:=zh E;clear E;obtain ⟨Aq,cq,rfl,M,b0⟩:=c9;obtain ⟨k,b8⟩:∃k,ps.length - 1=k:=⟨_,rfl⟩;rw [b8] at G b2 a8 I;have b7:(ps.length:Int) - 1=(k:Int):=by omega
 have a7:=zh b7;clear b7;have f2:(k:Int)<(ps.length:Int):=by omega
 have f1:(0:Int)<=(k:Int):=by omega
 have e7:(k:Int)<(m.tasks.length:Int):=by omega
 have rp:=za.rule G;have rt:=za.rule a8;clear G e0 b2 a8 b8 hk I;have hx:=za.refl w;rcases List.eq_nil_or_concat p with rfl | ⟨q,x,rfl⟩
 ·have hz:([]:List Int).length=0:=rfl;rw [hz] at M
  go_enter Tryz.func204,Tryz.ntmps204
  go_wp2_with fail
  go_quiet ((go_at_call 199;refine (Bp _ (HS.out.ext ((za.refl w).drewN _)) (by omega)).mono ?_;rintro e w9 ⟨D,rfl⟩;rw [a7.out] at D;exact ⟨D,⟨_,rfl⟩⟩))
  go_wp2_with fail
  go_quiet (fail)
  go_wp2;go_ret;exact ⟨zm (by rw [HF.out];rfl),(zT.refl w).more _ |>.more _⟩
 ·rw [List.concat_eq_append] at b0 U M HF;have c6:(q++[x]).length=q.length+1:=by simp
  rw [c6] at M U
  have O:∃bq offq,Aq=some ⟨bq,offq,none⟩/\w.cell? ⟨bq,offq+q.length,none⟩=some (.int .i64 x):=by
   obtain ⟨bq,offq,e,_,hc⟩:=Ai b0 (k:=q.length) (by omega) (by omega);exact ⟨bq,offq,e,by rw [hc];simp⟩
  obtain ⟨bq,offq,rfl,O⟩:=O;have rx:=za.rule O;clear O b0;have J:(q++[x]).getLast?=some x:=by simp
  rw [J] at HF;have V:(q.concat x).length=q.length+1:=by simp
  rw [V] at rp;clear J c6 V;generalize q.length=n at*;obtain ⟨N,hN⟩:=zaI (n+1);rw [<-hN] at rp M U;have f4:(0:Int)<=(n:Int):=by omega
  have f5:(n:Int)<(N:Int):=by omega
  have e4:(N:Int) - 1=(n:Int):=by omega
  have f6:(0:Int)<(N:Int):=by omega
  have f7:0<N:=by omega
  have f8:IntKind.i64.wrap ((N:Int) - 1)=(n:Int):=by rw [zag];omega
  clear hN e4
  go_enter Tryz.func204,Tryz.ntmps204
  go_wp2_with fail
  go_quiet ((go_at_call 199;refine (Bp _ (HS.out.ext ((za.refl w).drewN _)) (by omega)).mono ?_;rintro e w9 ⟨D,rfl⟩;rw [a7.out] at D;exact ⟨D,⟨_,rfl⟩⟩))
  generalize d5:w.drewN nq=w1;have b3:zT w w1:=⟨nq,d5.symm⟩;have d6:za w w1:=b3.below _;clear d5
  go_wp2_with fail
  go_quiet (first | ((go_at_call 199;refine (Bp _ (HS.out.ext (d6.drewN _)) (by omega)).mono ?_;rintro e w9 ⟨D,rfl⟩;rw [a7.out] at D;exact ⟨D,⟨_,rfl⟩⟩)) | ((go_at_call 130;refine (Bo x _ (d8.out.below (d6.drewN _)) (by omega)).mono ?_;rintro e w8 ⟨e1,rfl⟩;exact ⟨e1,⟨_,rfl⟩⟩)))
  go_wp2;go_ret;exact ⟨zm (by rw [HF.out]),b3.more _⟩
theorem Db {ok:Nat->Prop} {m:MZ} {ch us:List Int} {ps:List (List Int)} {g gu:Nat} {f u t vc vp:Value} (w:World) (h:BN w ok g m ch ps us f u t vc vp gu) (so:SOk m ch ps):
  Calls Tryz.prog 151 #[.pointer (some ⟨g,0,none⟩)] w fun e w'=>e=.returned (.bool (cmpB m ps))/\zT w w':=by
 obtain ⟨r0,r1,r2,r3,r4,r5,r6,r7,r8⟩:=h.rules;have b3:=h.ps;have b2:=h.maze;have HS:=zh h;clear h;obtain ⟨vs,⟨Ap,cp,rfl,V,b4⟩,b1⟩:=b3;obtain ⟨fr',up',ts',he,_,_,b6⟩:=b2;injection he with he;injection he with he;simp only [List.cons.injEq,and_true,true_and] at he;obtain ⟨rfl,rfl,rfl⟩:=he;obtain ⟨vst,⟨At,ct,rfl,a6,_⟩,_⟩:=b6;have J:=so.pl;have G:=so.pn;have b5:=so.good.tk;have SO:=zh so;clear so;clear b4 b1;have hx:=za.refl w;obtain ⟨cb,E⟩:=zaI (cmpB m ps);have D:=zh E;rw [<-E];clear E;unfold cmpB at D;obtain ⟨T,U⟩:=zaI m.tasks.length;obtain ⟨Pn,O⟩:=zaI ps.length;rw [<-U] at r5 a6 D J G b5;rw [<-O] at r7 V D J G;have HT:=zh U;clear U;have HP:=zh O;clear O;by_cases h0:T=0
 ·have I:Hid (cb=true):=by have:=D.out;rw [FB h0] at this;simpa [Hid] using this
  have a7:decide ((T:Int)=0)=true:=FB (by omega);have a8:((T:Int)==0)=true:=by rw [beq_iff_eq];omega
  clear h0 G
  go_enter Tryz.func151,Tryz.ntmps151
  go_wp2_with fail
  go_quiet (fail)
  go_wp2;go_ret;exact ⟨zm I.out.symm,(zT.refl w).more _⟩
 ·have a7:decide ((T:Int)=0)=false:=FC (by omega);have a8:((T:Int)==0)=false:=by rw [FM];omega
  by_cases h1:Pn=T
  ·have I:Hid (cb=finB m ps):=by have:=D.out;rw [FC h0,FB h1] at this;simpa [Hid] using this
   have M:Hid (0<ps.length):=(by have:=HP.out;omega:0<ps.length);subst h1;have a9:((Pn:Int)==(Pn:Int))=true:=by rw [beq_iff_eq]
   clear h0
   go_enter Tryz.func151,Tryz.ntmps151
   go_wp2_with fail
   go_quiet ((go_at_call 204;refine (EY _ (HS.out.ext ((za.refl w).drewN _)) SO.out M.out).mono ?_;rintro e w9 ⟨b0,nd,rfl⟩;exact ⟨b0,⟨_,World.drewN_drewN _ _ _⟩⟩))
   go_wp2;go_ret;exact ⟨zm I.out.symm,(zT.refl w).more _⟩
  ·have I:Hid (cb=false):=by have:=D.out;rw [FC h0,FC h1] at this;simpa [Hid] using this
   have b8:decide ((Pn:Int)=(T:Int))=false:=FC (by omega);have a9:((Pn:Int)==(T:Int))=false:=by rw [FM];omega
   clear h1 h0
   go_enter Tryz.func151,Tryz.ntmps151
   go_wp2_with fail
   go_quiet (fail)
   go_wp2;go_ret;exact ⟨zm I.out.symm,(zT.refl w).more _⟩
theorem Tryz.infoInts:(Tryz.prog.info? 23).map (fun i=>(i.zero,i.size,i.bytes))=some (some (.slice none 0 0),1,24):=by kernel_rfl
def Cy (w:World) (B:Nat) (v:Value) (vs:List Value):Prop:=w.ownsRow B 23 1 v vs.length vs
theorem EC {w:World} {ok:Nat->Prop} {v:Value} (h:zg w ok v l):v.oneCell'=true:=by
 obtain ⟨A,c,rfl,_⟩:=h;rfl
theorem BD {ok:Nat->Prop} {ops:Array Oper} {rest:List Oper} {Q:Exit->Act->World->Prop} (G:o.guard=none) (W:World) (s x:Operand)
  (ho:o.op=.call { callee:=.builtin .append,args:=#[s,x],argTypes:=#[22,22] }) (base:Nat) (l l2:List Value) (v u:Value) (hs:a.eval s=v) (hx:a.eval x=u)
  (E:Cy W base v l) (hu:AS W ok 1 u l2.length l2) (h1:∀u∈l2,u.oneCell'=true) (D:base<=W.heap.size) (hl:l.length+l2.length<=1000000000000)
  (h:∀v' w',Cy w' base v' (l++l2)->Hid (W.grownBy w' v.ownBlock)->Hid (v'.ownBlock=v.ownBlock\/v'.ownBlock=some W.heap.size)->wpList Tryz.prog ops Q rest (a.put o.dst v') w'):wpList Tryz.prog ops Q (o :: rest) a W:=by
 refine wpList_plain G fun K U=>?_
 obtain ⟨i0,V,I,J,M⟩:=info_parts Tryz.infoInts;obtain ⟨v',w',hr,h2,h3,O⟩:=Fk (ok:=ok) W base 22 o.type 23 i0 (.slice none 0 0) 24 Tryz.underlying22 V I J M rfl v _ _ E u _ _ hu h1 (by unfold maxLen;omega) (by omega) D;unfold Oper.wp execOp;simp only [ho,resolve,invoke,builtin,Sem.run_bind,Sem.run_pure,Result.andThen_ok,List.map_toArray,List.map_cons,List.map_nil,hs,hx,hr];refine U _ _ (h v' w' ?_ h3 O);unfold Cy;rw [FG];exact h2
theorem slice_own {g c:Nat} (h:(Value.slice (some ⟨g,0,none⟩) n c).ownBlock=some k):g<=k:=by
 have h:some g=some k:=h;injection h with h;omega
theorem own_emptyL (W:World) (B:Nat) (D:B<=W.heap.size):Cy (W.alloc (.cells #[] 23)) B (.slice (some ⟨W.heap.size,0,none⟩) 0 0) []:=
 ⟨rfl,.inr ⟨W.heap.size,0,#[],rfl,D,zax W _,Fy _,by decide,rfl,rfl⟩⟩
theorem nilEq (t e:TypeId) (ht:Tryz.prog.underlying t=some (.slice e)):∀(w:World) (a:Option Addr) (n c n' c':Nat),(binOp .eql t (.slice a n c) (.slice none n' c')).run Tryz.prog w=.ok (.bool a.isNone) w:=fun w a n c n' c'=>Lib.run_eql_slice_nil w _ _ a n c n' c' ht
theorem cloneI_calls {ok:Nat->Prop} {v:Value} (w:World) (h:zg w ok v l) (V:l.length<=100000000000):
  Calls Tryz.prog 92 #[v] w fun e w'=>∃v',e=.returned v'/\Mk w w' v' l:=by
 have H:=zh h;have I:=nilEq 23 3 Tryz.underlying23;obtain ⟨A,c,rfl,U,E⟩:=h;rcases A with _ | a
 ·have D:l=[]:=by
   rcases zav l.length with h | h
   ·exact zac h
   ·obtain ⟨b,off,e,_⟩:=E.2 h;cases e
  subst D;clear E
  go_enter Tryz.func92,Tryz.ntmps92
  go_wp2_with fail
  go_ret;exact ⟨_,rfl,Mk.nil _⟩
 ·clear E;have hx:=za.refl w
  go_enter Tryz.func92,Tryz.ntmps92
  go_wp2_with (at_builtin;refine Cb (ok:=ok) rfl _ _ _ rfl w.heap.size [] l _ _ rfl rfl (Bw w w.heap.size (Fy _)) (H.out.below ((za.refl w).alloc _)) ?d1 ?d2 ?_)
  case d1=>simp
  case d2=>simp;omega
  intro v' w1 J G _;have M:Hid (Mk w w1 v' l):=⟨J,zK ((za.refl w).alloc _) G (by simp) (fun k O=>slice_own O)⟩;clear J G
  go_wp2_with fail
  go_ret;exact ⟨_,rfl,M.out⟩
theorem cloneL_calls {ok:Nat->Prop} {v:Value} {vs:List Value} (w:World) (h:AS w ok 1 v vs.length vs) (h1:∀u∈vs,u.oneCell'=true) (hl:vs.length<=100000000000):
  Calls Tryz.prog 185 #[v] w fun e w'=>∃v',e=.returned v'/\za w w'/\Cy w' w.heap.size v' vs:=by
 have H:=zh h;have M:=zh h1;clear h1;have I:=nilEq 22 23 Tryz.underlying22;obtain ⟨A,c,rfl,hc,E⟩:=h;rcases A with _ | a
 ·have D:vs=[]:=by
   rcases zav vs.length with h | h
   ·exact zac h
   ·obtain ⟨b,off,e,_⟩:=E.2 h;cases e
  subst D;clear E
  go_enter Tryz.func185,Tryz.ntmps185
  go_wp2_with fail
  go_ret;exact ⟨_,rfl,za.refl _,World.ownsRow_nil _ _ _ _⟩
 ·clear E;have hx:=za.refl w
  go_enter Tryz.func185,Tryz.ntmps185
  go_wp2_with (at_builtin;refine BD (ok:=ok) rfl _ _ _ rfl w.heap.size [] vs _ _ rfl rfl (own_emptyL w w.heap.size (Fy _)) (H.out.below ((za.refl w).alloc _)) M.out ?d1 ?d2 ?_)
  case d1=>simp
  case d2=>simp;omega
  intro v' w1 J G _;have U:za w w1:=zK ((za.refl w).alloc _) G (by simp) (fun k V=>slice_own V);have O:=zh J;clear J G
  go_wp2_with fail
  go_ret;exact ⟨_,rfl,U,O.out⟩
def ps0 (m:MZ):List (List Int):=if m.tasks.length=0 then [] else [[]]
theorem ze.set {w:World} {g:Nat} {t:TypeId} (h:ze w g t cs) (v:Value):ze (w.setCell ⟨g,k,none⟩ v) g t (cs.setIfInBounds k v):=by
 unfold ze at h⊢;simp [World.setCell,Array.getElem?_modify,h]
theorem ze.setOther {w:World} {g:Nat} {t:TypeId} (h:ze w g t cs) {a:Addr} (D:g≠a.block) (v:Value):ze (w.setCell a v) g t cs:=
 (FH w a v g D).trans h
theorem ze.ext {w w':World} {g:Nat} {t:TypeId} (h:ze w g t cs) (D:za w w'):ze w' g t cs:=(D.block g (zd h)).trans h
theorem ze.cell {w:World} {g k:Nat} {t:TypeId} {cs:Array Value} {v:Value} (h:ze w g t cs) (D:cs[k]?=some v):w.cell? ⟨g,k,none⟩=some v:=by
 unfold ze at h;unfold World.cell?;simp only [h];exact D
theorem ze.frozen {w:World} {g:Nat} {t:TypeId} {cs:Array Value} (h:ze w g t cs) (k:Nat):w.frozen? ⟨g,k,none⟩=false:=by
 unfold ze at h;unfold World.frozen?;simp [h]
theorem ze.new (w:World) (cs:Array Value) (t:TypeId) {g:Nat} (D:g=w.heap.size):ze (w.alloc (.cells cs t)) g t cs:=by
 subst D;exact zax _ _
theorem BN.make {ok ok':Nat->Prop} {w W:World} {g gu:Nat} {m:MZ} {ch us:List Int} {ps:List (List Int)} {f u t vc vp:Value} (J:za w W) (hm:zL w ok (.agg #[.int .i64 m.w,.int .i64 m.h,.int .i64 m.l,f,u,t]) m)
  (U:∀b,ok b->ok' b) (M:ze W g 207 (stCells m f u t vc vp gu)) (O:ok' g) (D:zg W ok' vc ch) (G:zU W ok' vp ps) (E:ok' gu) (I:zW W gu us):BN W ok' g m ch ps us f u t vc vp gu:=
 ⟨M,O,(hm.below J).weaken U,D,G,E,I⟩
theorem zU.nil (w:World) (ok:Nat->Prop):zU w ok (.slice none 0 0) []:=⟨[],⟨none,0,rfl,Fy _,Ba.nil _ _ _ _⟩,by simp⟩
theorem Ba.block {w:World} {ok:Nat->Prop} {g:Nat} {t:TypeId} (h:ze w g t cs) (D:ok g) (E:cs.size=n):Ba w ok 1 (some ⟨g,0,none⟩) n cs.toList:=
 ⟨by simp [E],fun _=>⟨g,0,rfl,D,fun j u G=>by rw [Nat.zero_add];exact h.cell (by simpa using G)⟩⟩
theorem begin_calls {ok:Nat->Prop} {v:Value} {m:MZ} (w:World) (hm:zL w ok v m) (hl:m.tasks.length<=100000):
  Calls Tryz.prog 146 #[v] w fun e w'=>∃v',e=.returned v'/\za w w'/\DP w' (fun b=>ok b\/w.heap.size<=b) v' m [] (ps0 m) []:=by
 have E:=hm;obtain ⟨vfr,vup,vts,rfl,_,_,b1⟩:=hm;obtain ⟨vst,⟨At,ct,rfl,b5,_⟩,_⟩:=b1;have b6:=@run_makeMap Tryz.prog;by_cases h0:m.tasks.length=0
 ·have D:ps0 m=[]:=by unfold ps0;rw [if_pos h0]
  rw [h0] at E;have I:=zh E;clear E;have HP:=zh D;clear D
  go_enter Tryz.func146,Tryz.ntmps146
  go_wp2_with fail
  go_ret;rw [HP.out];have G:za w (w.alloc (.cells #[.int .i64 m.w,.int .i64 m.h,.int .i64 m.l,vfr,vup,.slice At 0 ct] 32)):=(za.refl w).alloc _;refine ⟨_,rfl,(G.alloc _).alloc _,w.heap.size+2,_,_,_,_,_,w.heap.size+1,rfl,BN.make ((G.alloc _).alloc _) I.out (fun _ h=>.inl h) (ze.new _ _ _ (by simp)) (.inr (by omega)) (zg.nil _ _) (zU.nil _ _) (.inr (by omega)) ?_⟩
  have h1:zW ((w.alloc (.cells #[.int .i64 m.w,.int .i64 m.h,.int .i64 m.l,vfr,vup,.slice At 0 ct] 32)).alloc (.map #[] 0)) (w.heap.size+1) []:=by
   have:=zW.new (w.alloc (.cells #[.int .i64 m.w,.int .i64 m.h,.int .i64 m.l,vfr,vup,.slice At 0 ct] 32));simpa using this
  exact h1.below ((za.refl _).alloc _)
 ·have D:ps0 m=[[]]:=by unfold ps0;rw [if_neg h0]
  have I:=zh E;clear E;have HP:=zh D;clear D
  go_enter Tryz.func146,Tryz.ntmps146
  go_wp2_with fail
  go_ret;rw [HP.out];generalize U:w.alloc (.cells #[.int .i64 m.w,.int .i64 m.h,.int .i64 m.l,vfr,vup,.slice At m.tasks.length ct] 32)=w1;have G:za w w1:=by rw [<-U];exact (za.refl w).alloc _
  have V:w1.heap.size=w.heap.size+1:=by rw [<-U];simp
  have h1:zW (w1.alloc (.map #[] 0)) (w.heap.size+1) []:=by rw [<-V];exact zW.new w1
  have a7:za w (w1.alloc (.map #[] 0)):=G.alloc _;generalize b2:w1.alloc (.map #[] 0)=w2 at*;have b4:w2.heap.size=w.heap.size+2:=by rw [<-b2];simp [V]
  generalize J:w2.alloc (.cells #[.int .i64 m.w,.int .i64 m.h,.int .i64 m.l,vfr,vup,.slice At m.tasks.length ct,.slice none 0 0,.slice (some ⟨w.heap.size+1+1+1,0,none⟩) 1 1,.map (some (w.heap.size+1))] 207)=w3;have a8:ze w3 (w.heap.size+2) 207 (stCells m vfr vup (.slice At m.tasks.length ct) (.slice none 0 0) (.slice (some ⟨w.heap.size+3,0,none⟩) 1 1) (w.heap.size+1)):=by rw [<-J];exact ze.new _ _ _ (by omega)
  have b7:w3.heap.size=w.heap.size+3:=by rw [<-J];simp [b4]
  have a6:za w2 w3:=by rw [<-J];exact (za.refl _).alloc _
  have M:=a6.alloc (.cells #[.slice none 0 0] 23);have O:=a7.trans M;have a9:=a8.alloc (.cells #[.slice none 0 0] 23);have b0:ze (w3.alloc (.cells #[.slice none 0 0] 23)) (w.heap.size+3) 23 #[.slice none 0 0]:=ze.new _ _ _ (by omega);refine ⟨_,rfl,O,w.heap.size+2,_,_,_,_,_,w.heap.size+1,rfl,BN.make O I.out (fun _ h=>.inl h) a9 (.inr (by omega)) (zg.nil _ _) ?_ (.inr (by omega)) (h1.below M)⟩
  ·exact ⟨[.slice none 0 0],⟨some ⟨w.heap.size+3,0,none⟩,1,rfl,Fy _,Ba.block b0 (.inr (by omega)) rfl⟩,fun i x hx=>by
    match i,hx with
    | 0,hx=>
     have:x=[]:=by simpa using hx.symm
     subst this;exact ⟨_,rfl,zg.nil _ _⟩⟩
end
section
open Go.RowKit Go.Shelf
attribute [local go_sem] Oper.semAt_some
theorem values1_in (F:Fence) (n:Nat) (h7:F.fn 226) (a9:F.round=none) (hn:1<=n) (l Bs n₀:Nat) (A:Option Addr) (cap:Nat) (zs:List Int) (b2:zs.length<=1000000000000) (J Jx:List Int->World->Prop)
  (hY:∀pre x W,J pre W->pre.length<zs.length->YieldAt F (n - 1) Tryz.prog l #[.int .i64 x] W fun e W'=>
   (e=.returned (.bool true)/\J (pre++[x]) W'/\Below n₀ W W')\/(e=.returned (.bool false)/\Jx (pre++[x]) W'))
  (W:World) (b7:W.cell? ⟨Bs,0,none⟩=some (.slice A zs.length cap)) (hc:∀(j:Nat) (hj:j<zs.length),∃b off,A=some ⟨b,off,none⟩/\b<n₀/\W.cell? ⟨b,off+j,none⟩=some (.int .i64 (zs[j]))) (h0:J [] W):
  CallsIn F n Tryz.prog 226 #[.func (.yield l) #[] #[],.pointer (some ⟨Bs,0,none⟩)] W fun e W'=>(∃v,e=.returned v)/\
   ((∃ys,ys=zs/\J ys W')\/(∃pre,pre <+: zs/\Jx pre W')):=by
 have HC:=zh hc;clear hc;refine callsIn_of_wp Tryz.func226 rfl h7 ?_ a9;simp only [Tryz.ntmps226,List.size_toArray,zaG,zaH,Nat.reduceAdd,Nat.reduceSub,Array.replicate_succ,Array.replicate_zero,List.push_toArray,List.append_toArray,List.nil_append,List.cons_append]
 gi_wp2
 gi_loopw [7] (fun i wr=>∃k:Nat,k<=zs.length/\i=.int .i64 k/\Hid (J (zs.take k) wr)/\Hid (Below n₀ W wr))
  (fun i _=>zs.length - (intOf i).toNat)
 case atStart=>exact ⟨0,FN _,rfl,h0,Below.refl _ _⟩
 case round=>
  obtain ⟨k,hk,rfl,O,a6⟩:=hrel;by_cases V:k<zs.length
  ·obtain ⟨b,off,rfl,hb,E⟩:=HC.out k V;have a8:wr.cell? ⟨b,off+k,none⟩=some (.int .i64 (zs[k])):=(a6.out.cell (p:=⟨b,off+k,none⟩) hb).trans E;clear E;have I:=zh (FF V);obtain ⟨x,hx⟩:=zaI (zs[k]);rw [<-hx] at a8 I;clear hx;obtain ⟨fn,tmps,assign,body,hy,hR⟩:=hY _ x wr O.out (by simp;omega);have HR:=zh hR;clear hR
   gi_wp2
   refine HR.out.mono ?_;rintro e W3 (⟨rfl,M,U⟩ | ⟨rfl,D⟩)
   ·have G:=zh M;clear M;have a7:=zh U;clear U
    gi_wp2
    go_roundw
    case rel=>exact ⟨k+1,by omega,by go_num,by rw [I.out];exact G,a6.out.trans a7.out⟩
    case measure=>simp [intOf];omega
   ·have G:=zh D;clear D
    gi_wp2
    refine za5 (results_none rfl _ _ _) rfl ?_;exact ⟨⟨_,rfl⟩,.inr ⟨_,List.take_prefix (k+1) zs,by rw [I.out];exact G.out⟩⟩
  ·obtain rfl:k=zs.length:=by omega
   gi_wp2
   go_end0
   exact ⟨⟨_,rfl⟩,.inl ⟨_,rfl,by have:=O.out;rwa [FJ] at this⟩⟩
theorem values_stops {ok:Nat->Prop} {v:Value} (Bs n₀ n:Nat) (hn:1<=n) (w:World) (I:Bs<w.heap.size) (hn₀:n₀<=w.heap.size) (hc:w.cell? ⟨Bs,0,none⟩=some v) (h:zg w ok v l) (M:∀b,ok b->b<w.heap.size->b<n₀) (E:l.length<=1000000000000):
  SeqStopsK Fence.wide n Tryz.prog 226 #[.pointer (some ⟨Bs,0,none⟩)] (fun x:Int=>#[Value.int .i64 x]) (Below n₀) (fun ys=>ys=l) (fun pre=>pre <+: l) l.length w:=fun lb J Jx W hW _ _ V h0=>by
 obtain ⟨A,cap,rfl,O,hr⟩:=h;refine values1_in Fence.wide n trivial rfl hn lb Bs n₀ A cap l E J Jx V W ((hW.cell (p:=⟨Bs,0,none⟩) I).trans hc) (fun j U=>?_) h0;obtain ⟨b,off,e,hb,D⟩:=Ai hr U U;have G:=zo D;exact ⟨b,off,e,M b hb G,(hW.cell (p:=⟨b,off+j,none⟩) G).trans D⟩
theorem zg.bound {w:World} {ok:Nat->Prop} {v:Value} (h:zg w ok v l):zg w (fun b=>ok b/\b<w.heap.size) v l:=by
 obtain ⟨A,c,e,J,M,D⟩:=h;refine ⟨A,c,e,J,M,fun G=>?_⟩;obtain ⟨b,off,e',I,E⟩:=D G;have h0:0<(l.map (Value.int .i64)).length:=by simpa using G
 exact ⟨b,off,e',⟨I,zo (E 0 _ (Fw h0))⟩,E⟩
theorem appendSeq_calls {ok:Nat->Prop} {v:Value} (Bs:Nat) (w:World) (hc:w.cell? ⟨Bs,0,none⟩=some v) (h:zg w ok v l) (V:l.length<=1000000000000):
  Calls Tryz.prog 238 #[.slice none 0 0,.func (.func 226) #[] #[.pointer (some ⟨Bs,0,none⟩)]] w fun e w'=>∃v',e=.returned v'/\Mk w w' v' l:=by
 refine (callsIn_wide (n:=6)).1 ?_;obtain ⟨i0,hi,b2,b3,b4⟩:=info_parts Tryz.infoInt;have HI:=zh h;clear h;have b6:=zo hc;refine callsIn_of_wp_marks Tryz.func238 rfl trivial ?_ rfl;simp only [Tryz.ntmps238,List.size_toArray,zaG,zaH,Nat.reduceAdd,Nat.reduceSub,Array.replicate_succ,Array.replicate_zero,List.push_toArray,List.append_toArray,List.nil_append,List.cons_append]
 gi_wp2
 have bO:=Boxed.new w 23 (.slice none 0 0);have M:Below w.heap.size w (w.alloc (.cells #[.slice none 0 0] 23)):=(Below.refl _ w).alloc (Fy _) _
 refine wpIn_rangeFunc_ownG (F:=Fence.wide) rfl (by omega) (gf:=226) (lb:=#[.pointer (some ⟨Bs,0,none⟩)]) rfl trivial (enters_of Tryz.func226 (by kernel_rfl) rfl)
  (values_stops (ok:=fun b=>ok b/\b<w.heap.size) Bs w.heap.size _ (by omega) _ (by simp;omega) (by simp) ((za.refl w).alloc _ |>.cell hc) (HI.out.bound.below M) (fun b hb _=>hb.2) V) belowK_t (belowK_b (by simp)) (Below.refl _ _) (fun _=>rfl)
  (fun pre W=>(∃v,Boxed W w.heap.size 23 v/\W.ownsRow w.heap.size 3 1 v pre.length (pre.map (Value.int .i64))/\True)/\Below w.heap.size w W)
  (fun _ _ _=>False)
  (OwnFrom.and (Own.from (holdsRow_own w.heap.size w.heap.size 23 3 1 (fun pre:List Int=>pre.length) (fun pre:List Int=>pre.map (Value.int .i64)) (fun pre v=>True)) _) (ownFrom_below (Fy _) (by simp)))
  (fun _ _ _ _ _ hs _ _=>hs)
  ⟨⟨_,bO,World.ownsRow_nil _ _ _ _,trivial⟩,M⟩
  (fun x=>{ tmps:=#[.slice none 0 0,.func (.func 226) #[] #[.pointer (some ⟨Bs,0,none⟩)],.pointer (some ⟨w.heap.size,0,none⟩),undef,.slice none 0 0,.int .i64 x,.func (.func 226) #[] #[.pointer (some ⟨Bs,0,none⟩)],.int .i64 x,undef,undef,undef,undef,undef],defers:=[] }) ?assign ?body ?done ?stop
 case assign=>
  intro l x W K O
  gi_wp2
  exact O
 case body=>
  rintro lb pre x W ⟨⟨v,hv,E,_⟩,J⟩ c7;have hc:=hv.cell
  gi_wp2_with (gi_at_builtin;refine wpListIn_append_own _ rfl _ _ 23 rfl w.heap.size 3 i0 (.int .i64 0) 1 8 Tryz.underlying23 hi b2 b3 b4 rfl (by decide) _ _ _ rfl (E.alloc _) ⟨W.heap.size,0,none⟩ 1 1 [.int .i64 x] rfl rfl (cell_one_new _ _ _) (by simp [Value.oneCell']) (by unfold maxLen;omega) (by omega) (by have:=J.size;simp;omega) ?_;intro v' w1 G I _;obtain ⟨g',cap',rfl⟩:=ownsRow_succ G;obtain ⟨a6,b1,b0,a9,U⟩:=hv.appended (by decide) E J.size (Fy _) G I;have b9:=a6.cell;have c0:=a6.frozen)
  exact ⟨a9.from _,U,⟨_,b1,by simpa using b0,trivial⟩,J.trans U⟩
 case done=>
  rintro D ys W hD rfl ⟨⟨v,hv,E,_⟩,J⟩ O;have hc:=hv.cell
  gi_wp2
  refine ⟨by simp,.inl ⟨_,_,rfl,run_takeDeferred O,?_⟩⟩;exact ⟨_,results_tmp rfl _ _ _,v,rfl,ownsRow_putObj E _ O rfl,J.trans (belowK_b (w:=w) (Fy _) W D _ _ (by simp at hD;omega) O rfl rfl)⟩
 case stop=>
  rintro D c pre W _ _ h _;exact h.elim
end
section
open Go.RowKit
section
variable {P:Program} {ops:Array Oper} {Q:Exit->Act->World->Prop} {md:Region.Mode} {S:World->Prop}
def CT (ops:Array Oper) (j:Nat):Option Tmp:=(ops[j]?).bind (·.dst)
def Ae (ops:Array Oper) (v:Nat->Value):List Nat->Act->Act
 | [],a=>a
 | j :: js,a=>Ae ops v js (a.put (CT ops j) (v j))
def AY {α:Type} (f:Nat->α) (j:Nat) (x:α):Nat->α:=fun k=>if k=j then x else f k
theorem Ex {α:Type} (f:Nat->α) (j:Nat) (x:α):AY f j x j=x:=by simp [AY]
theorem upd_ne {α:Type} (f:Nat->α) {j:Nat} (x:α) (h:k≠j):AY f j x k=f k:=by simp [AY,h]
theorem put_put (a:Act) (d:Option Tmp) (x y:Value):(a.put d x).put d y=a.put d y:=by
 cases d with
 | none=>rfl
 | some d=>simp [Act.put]
theorem put_comm (a:Act) {d d':Option Tmp} (x y:Value) (h:d=d'->d=none):(a.put d x).put d' y=(a.put d' y).put d x:=by
 cases d with
 | none=>rfl
 | some d=>
  cases d' with
  | none=>rfl
  | some d'=>
   have D:d≠d':=fun e=>by subst e;exact absurd (h rfl) (by simp)
   simp only [Act.put];rw [Array.setIfInBounds_comm _ _ D]
theorem putAll_put (v:Nat->Value) (d:Option Tmp) (x:Value):∀(js:List Nat) (a:Act),(∀k∈js,CT ops k=d->d=none)->(Ae ops v js a).put d x=Ae ops v js (a.put d x)
 | [],_,_=>rfl
 | k :: js,a,h=>by
  simp only [Ae];rw [putAll_put v d x js _ (fun k' D=>h k' (zaf _ D)),put_comm a _ _ (fun e=>by rw [e];exact h k (zaw ..) e)]
theorem putAll_upd (v:Nat->Value) (j:Nat) (x:Value):∀(js:List Nat) (a:Act),j∉js->Ae ops (AY v j x) js a=Ae ops v js a
 | [],_,_=>rfl
 | k :: js,a,h=>by
  simp only [Ae];rw [upd_ne v x (fun e=>h (by simp [e])),putAll_upd v j x js _ (fun D=>h (zaf _ D))]
def Dist (ops:Array Oper) (js:List Nat):Prop:=∀j∈js,∀k∈js,j≠k->CT ops j=CT ops k->CT ops k=none
theorem putAll_set (v:Nat->Value) (j:Nat) (x:Value):∀(js:List Nat) (a:Act),js.Nodup->Dist ops js->j∈js->(Ae ops v js a).put (CT ops j) x=Ae ops (AY v j x) js a
 | [],_,_,_,h=>by cases h
 | k :: js,a,U,G,h=>by
  obtain ⟨I,E⟩:=List.nodup_cons.1 U;simp only [Ae];by_cases e:j=k
  ·subst e;rw [Ex,putAll_upd v j x js _ I,putAll_put v _ x js _ (fun k' D he=>G k' (zaf _ D) j (zaw ..) (fun e=>I (e ▸ D)) he),put_put]
  ·have O:j∈js:=by
    rcases zaz.1 h with h | h
    ·exact absurd h e
    ·exact h
   rw [upd_ne v x (fun h=>e h.symm)];exact putAll_set v j x js _ E (fun a J b M=>G a (zaf _ J) b (zaf _ M)) O
theorem put_self (a:Act) (d:Option Tmp):∃x,a.put d x=a:=by
 cases d with
 | none=>exact ⟨undef,rfl⟩
 | some d=>
  refine ⟨a.tmps.getD d undef,?_⟩;obtain ⟨t,ds⟩:=a;simp only [Act.put,Act.mk.injEq,and_true];apply Array.ext_getElem?;intro i;rw [Array.getElem?_setIfInBounds]
  split
  ·rename_i h
   subst h
   split
   ·rename_i h;simp [Array.getD,h]
   ·rename_i h;rw [Array.getElem?_eq_none (by omega)]
  ·rfl
theorem Fh (a:Act):∀(js:List Nat),js.Nodup->∃v,Ae ops v js a=a
 | [],_=>⟨fun _=>undef,rfl⟩
 | j :: js,h=>by
  obtain ⟨D,E⟩:=List.nodup_cons.1 h;obtain ⟨v,G⟩:=Fh a js E;obtain ⟨x,I⟩:=put_self a (CT ops j);refine ⟨AY v j x,?_⟩;simp only [Ae];rw [Ex,putAll_upd v j x js _ D,I,G]
def Ds (md:Region.Mode) (ops:Array Oper) (js:List Nat):Bool:=
 ((List.range ops.size).all fun j=>match ops[j]? with | none=>false | some o=>o.after.toList.all fun e=>!Region.binds md e || decide (e.on<j)) &&
 decide js.Nodup && (js.all fun j=>decide (j<ops.size)) && (js.all fun j=>js.all fun k=>decide (j=k) || !(decide (CT ops j=CT ops k)) || decide (CT ops k=none))
def leftB (ops:Array Oper) (listed:Array Bool) (js:List Nat):Bool:=decide (listed.size=ops.size) && (List.range listed.size).all fun k=>listed.getD k true || decide (k∈js)
def StepTo (ops:Array Oper) (S:World->Prop) (J:(Nat->Bool)->(Nat->Value)->World->Prop) (js:List Nat) (a0:Act) (j:Nat) (e:Nat->Bool) (v:Nat->Value) (K:Act->World->Prop):Prop:=
 ∀a' x w',(Ae ops v js a0).put (CT ops j) x=a'->S w'->J (AY e j true) (AY v j x) w'->K a' w'
theorem wpAnyH_inv {J:(Nat->Bool)->(Nat->Value)->World->Prop} (hB:Ds md ops js=true)
  (step:∀j∈js,∀e v w,J e v w->S w->e j=false->(∀o,ops[j]?=some o->∀d∈o.after,Region.binds md d=true->e d.on=true)->∀o,ops[j]?=some o->∀K:Act->World->Prop,Hid (StepTo ops S J js a0 j e v K)->
   if Region.wanted o (yielded ops (Ae ops v js a0).tmps)=true then Oper.wp P o (Ae ops v js a0) w K Q else K ((Ae ops v js a0).put o.dst undef) w)
  (fin:∀v w,J (fun _=>true) v w->S w->Q .normal (Ae ops v js a0) w):
  ∀(fuel:Nat) (listed:Array Bool) (v:Nat->Value) (w:World),listed.size=ops.size->(∀k,listed.getD k true=false->k∈js)->(js.filter fun k=>!listed.getD k true).length<=fuel->S w->J (fun k=>listed.getD k true) v w->
   wpAnyH P md ops Q S fuel listed (Ae ops v js a0) w:=by
 unfold Ds at hB;simp only [FK,zaF,FI,zaD,Bool.not_eq_true',zai] at hB;obtain ⟨⟨⟨h1,h2⟩,h3⟩,h4⟩:=hB
 have hD:Dist ops js:=fun j hj k O c7 he=>by
  rcases h4 j hj k O with (h | h) | h
  ·exact absurd h c7
  ·exact absurd he h
  ·exact h
 have a7:∀listed:Array Bool,(∀k,listed.getD k true=true)->(fun k=>listed.getD k true)=fun _=>true:=fun listed h=>funext h
 have V:∀listed:Array Bool,listed.size=ops.size->(∀k,listed.getD k true=false->k∈js)->Region.ready md ops listed=[]->∀k,listed.getD k true=true:=by
  intro listed a6 D hr
  have O:∀n k,k<n->listed.getD k true=true:=by
   intro n
   induction n with
   | zero=>intro k h;omega
   | succ n ih=>
    intro k e3
    cases hv:listed.getD k true with
    | true=>rfl
    | false=>
     exfalso
     have I:=h3 k (D k hv)
     have a8:k∈Region.ready md ops listed:=mem_ready.2 ⟨hv,ops[k],Array.getElem?_eq_getElem I,fun e he hb=>by
      have:=h1 k (zaB.2 I);rw [Array.getElem?_eq_getElem I] at this;have h5:=(zaF.1 this) e (by simpa using he);simp only [zaD,Bool.not_eq_true',FI] at h5
      have h6:e.on<k:=by
       rcases h5 with h5 | h5
       ·rw [hb] at h5;cases h5
       ·exact h5
      have h7:=ih e.on (by omega);have h8:e.on<listed.size:=by omega
      simp only [Array.getD,h8,dif_pos] at h7⊢;exact h7⟩
     rw [hr] at a8;cases a8
  exact fun k=>O (k+1) k (by omega)
 intro fuel
 induction fuel with
 | zero=>
  intro listed v w a6 D hc hS hJ
  have hf:∀k,listed.getD k true=true:=fun k=>by
   cases hv:listed.getD k true with
   | true=>rfl
   | false=>
    exfalso
    have:k∈js.filter fun k=>!listed.getD k true:=za9.2 ⟨D k hv,by rw [hv];rfl⟩
    rw [zac (Nat.le_zero.1 hc)] at this;cases this
  refine ⟨?_,fin v w (by rw [<-a7 listed hf];exact hJ) hS⟩;apply List.eq_nil_iff_forall_not_mem.2;intro j hj;have:=(mem_ready.1 hj).1;rw [hf j] at this;cases this
 | succ fuel ih=>
  intro listed v w a6 D hc hS hJ;refine ⟨fun hr=>fin v w (by rw [<-a7 listed (V listed a6 D hr)];exact hJ) hS,fun i hi=>?_⟩;obtain ⟨b0,o,ho,a9⟩:=mem_ready.1 hi;have G:=D i b0;refine wpOp_step ho fun K' hK=>?_
  have I:i<listed.size:=by have:=h3 i G;omega
  refine step i G (fun k=>listed.getD k true) v w hJ hS b0 (fun o' U d hd hb=>?_) o ho K' fun a' x w' ha b3 b2=>?_
  ·rw [ho] at U;injection U with U;subst U;have h9:=a9 d hd hb;by_cases b1:d.on<listed.size
   ·simp only [Array.getD,b1,dif_pos] at h9⊢;exact h9
   ·simp only [Array.getD,b1,dif_neg,not_false_eq_true] at h9;cases h9
  ·refine hK _ _ ⟨b3,?_⟩
   have M:AY (fun k=>listed.getD k true) i true=fun k=>(listed.setIfInBounds i true).getD k true:=by
    funext k;by_cases O:k=i
    ·subst O;rw [Ex];simp [Array.getD,I]
    ·rw [upd_ne _ _ O];simp only [Array.getD,Array.size_setIfInBounds]
     split
     ·rename_i h
      show listed[k]=(listed.setIfInBounds i true)[k]'(by simpa using h);rw [Array.getElem_setIfInBounds,if_neg (Ne.symm O)]
     ·rfl
   rw [M] at b2;rw [<-ha,putAll_set v i x js a0 h2 hD G];refine ih (listed.setIfInBounds i true) (AY v i x) w' (by simpa using a6) (fun k O=>?_) ?_ b3 b2
   ·by_cases E:k=i
    ·rw [E];exact G
    ·have:=congrFun M k;rw [upd_ne _ _ E] at this;exact D k (this.trans O)
   ·have c0:(js.filter fun k=>!(listed.setIfInBounds i true).getD k true)=(js.filter fun k=>!listed.getD k true).erase i:=by
     rw [List.Nodup.erase_eq_filter (h2.filter _),List.filter_filter];apply List.filter_congr;intro k O;have:=congrFun M k;rw [<-this];by_cases E:k=i
     ·subst E;simp [Ex]
     ·rw [upd_ne _ _ E];simp [E]
    rw [c0,List.length_erase_of_mem (za9.2 ⟨G,by show (!listed.getD i true)=true;rw [b0];rfl⟩)];omega
theorem wpAnyH_by_inv (js:List Nat) (J:(Nat->Bool)->(Nat->Value)->World->Prop) {w:World} (E:Ds md ops js=true) (hL:leftB ops listed js=true) (hf:js.length<=fuel) (M:S w)
  (init:∀e v,(∀j∈js,e j=false)->J e v w)
  (G:(js.all fun j=>!listed.getD j true)=true)
  (step:∀j∈js,∀e v w,J e v w->S w->e j=false->(∀o,ops[j]?=some o->∀d∈o.after,Region.binds md d=true->e d.on=true)->∀o,ops[j]?=some o->∀K:Act->World->Prop,Hid (StepTo ops S J js a0 j e v K)->
   if Region.wanted o (yielded ops (Ae ops v js a0).tmps)=true then Oper.wp P o (Ae ops v js a0) w K Q else K ((Ae ops v js a0).put o.dst undef) w)
  (fin:∀v w,J (fun _=>true) v w->S w->Q .normal (Ae ops v js a0) w):wpAnyH P md ops Q S fuel listed a0 w:=by
 unfold leftB at hL;simp only [FK,zaF,FI,zaD] at hL
 have U:js.Nodup:=by
  unfold Ds at E;simp only [FK,FI] at E;exact E.1.1.2
 obtain ⟨v,V⟩:=Fh (ops:=ops) a0 js U
 have h:=wpAnyH_inv E step fin fuel listed v w hL.1 (fun k I=>by
  by_cases D:k<listed.size
  ·rcases hL.2 k (zaB.2 D) with h | h
   ·rw [I] at h;cases h
   ·exact h
  ·simp [Array.getD,D] at I) (FA (zan _ _) hf) M (init _ _ (fun j O=>by
   have:=zaF.1 G j O;simpa using this))
 rwa [V] at h
end
def noDeferB (ops:Array Oper):Bool:=ops.toList.all fun o=>match o.op with | .defer _=>false | _=>true
theorem operIn_of {P:Program} {w:World} {Q:Exit->Act->World->Prop} (l n:Nat) (E:∀c,o.op≠.defer c) (h:o.wp P a w K Q):o.wpIn (Fence.wide.inRound l) n P a w K Q:=by
 have D:(Fence.wide.inRound l).depth.isSome=true->1<=n:=fun h=>absurd h (by simp [Fence.wide])
 refine ⟨fun f _=>trivial,?_⟩;rw [Oper.semAt_eq _ _ _ E];unfold Oper.wp at h;generalize (execOp a.eval o).run P w=r at*
 cases r with
 | ok x w'=>
  cases x with
  | enter f args=>exact ⟨D,(CallsIn.inRound l (callsIn_wide.2 h)).mono (fun e w'' he=>by cases e <;> exact he)⟩
  | row row args=>exact ⟨D,fun c cs _=>let ⟨v,w'',r,s⟩:=h c cs;⟨v,w'',r,stepsIn_wide.2 s⟩⟩
  | _=>first | exact h | exact (h:False).elim
 | halt x w'=>cases x <;> exact h
section
variable {P:Program} {ops:Array Oper} {Q:Exit->Act->World->Prop} {md:Region.Mode} {S:World->Prop}
theorem wpOpIn_step (l n:Nat) (E:noDeferB ops=true) {i:Nat} {w:World} (G:ops[i]?=some o)
  (h:∀K':Act->World->Prop,(∀a w,K a w->K' a w)->if Region.wanted o (yielded ops a.tmps)=true then Oper.wp P o a w K' Q else K' (a.put o.dst undef) w):wpOpIn (Fence.wide.inRound l) n P ops Q i K a w:=by
 have h1:=h K (fun _ _ h=>h);unfold wpOpIn;rw [G]
 have I:∀c,o.op≠.defer c:=by
  intro c e;have:=zaF.1 E o (by simpa using Array.mem_of_getElem? G);rw [e] at this;cases this
 by_cases D:Region.wanted o (yielded ops a.tmps)=true
 ·rw [if_pos D] at h1;simp only [D,if_true];exact operIn_of l n I h1
 ·rw [if_neg D] at h1;simp only [D];exact ⟨fun f _=>trivial,h1⟩
theorem wpAnyIn_inv (l n:Nat) (b7:noDeferB ops=true) {J:(Nat->Bool)->(Nat->Value)->World->Prop} (hB:Ds md ops js=true)
  (step:∀j∈js,∀e v w,J e v w->e j=false->(∀o,ops[j]?=some o->∀d∈o.after,Region.binds md d=true->e d.on=true)->∀o,ops[j]?=some o->∀K:Act->World->Prop,Hid (StepTo ops (fun _=>True) J js a0 j e v K)->
   if Region.wanted o (yielded ops (Ae ops v js a0).tmps)=true then Oper.wp P o (Ae ops v js a0) w K Q else K ((Ae ops v js a0).put o.dst undef) w)
  (fin:∀v w,J (fun _=>true) v w->Q .normal (Ae ops v js a0) w):
  ∀(fuel:Nat) (listed:Array Bool) (v:Nat->Value) (w:World),listed.size=ops.size->(∀k,listed.getD k true=false->k∈js)->(js.filter fun k=>!listed.getD k true).length<=fuel->J (fun k=>listed.getD k true) v w->
   wpAnyIn (Fence.wide.inRound l) n P md ops Q fuel listed (Ae ops v js a0) w:=by
 unfold Ds at hB;simp only [FK,zaF,FI,zaD,Bool.not_eq_true',zai] at hB;obtain ⟨⟨⟨h1,h2⟩,h3⟩,h4⟩:=hB
 have hD:Dist ops js:=fun j hj k O c6 he=>by
  rcases h4 j hj k O with (h | h) | h
  ·exact absurd h c6
  ·exact absurd he h
  ·exact h
 have a7:∀listed:Array Bool,(∀k,listed.getD k true=true)->(fun k=>listed.getD k true)=fun _=>true:=fun listed h=>funext h
 have V:∀listed:Array Bool,listed.size=ops.size->(∀k,listed.getD k true=false->k∈js)->Region.ready md ops listed=[]->∀k,listed.getD k true=true:=by
  intro listed a6 D hr
  have O:∀n k,k<n->listed.getD k true=true:=by
   intro n
   induction n with
   | zero=>intro k h;omega
   | succ n ih=>
    intro k e3
    cases hv:listed.getD k true with
    | true=>rfl
    | false=>
     exfalso
     have I:=h3 k (D k hv)
     have a8:k∈Region.ready md ops listed:=mem_ready.2 ⟨hv,ops[k],Array.getElem?_eq_getElem I,fun e he hb=>by
      have:=h1 k (zaB.2 I);rw [Array.getElem?_eq_getElem I] at this;have h5:=(zaF.1 this) e (by simpa using he);simp only [zaD,Bool.not_eq_true',FI] at h5
      have h6:e.on<k:=by
       rcases h5 with h5 | h5
       ·rw [hb] at h5;cases h5
       ·exact h5
      have h7:=ih e.on (by omega);have h8:e.on<listed.size:=by omega
      simp only [Array.getD,h8,dif_pos] at h7⊢;exact h7⟩
     rw [hr] at a8;cases a8
  exact fun k=>O (k+1) k (by omega)
 intro fuel
 induction fuel with
 | zero=>
  intro listed v w a6 D hc hJ
  have hf:∀k,listed.getD k true=true:=fun k=>by
   cases hv:listed.getD k true with
   | true=>rfl
   | false=>
    exfalso
    have:k∈js.filter fun k=>!listed.getD k true:=za9.2 ⟨D k hv,by rw [hv];rfl⟩
    rw [zac (Nat.le_zero.1 hc)] at this;cases this
  refine ⟨?_,fin v w (by rw [<-a7 listed hf];exact hJ)⟩;apply List.eq_nil_iff_forall_not_mem.2;intro j hj;have:=(mem_ready.1 hj).1;rw [hf j] at this;cases this
 | succ fuel ih=>
  intro listed v w a6 D hc hJ;refine ⟨fun hr=>fin v w (by rw [<-a7 listed (V listed a6 D hr)];exact hJ),fun i hi=>?_⟩;obtain ⟨b0,o,ho,a9⟩:=mem_ready.1 hi;have G:=D i b0;refine wpOpIn_step l n b7 ho fun K' hK=>?_
  have I:i<listed.size:=by have:=h3 i G;omega
  refine step i G (fun k=>listed.getD k true) v w hJ b0 (fun o' U d hd hb=>?_) o ho K' fun a' x w' ha d9 b2=>?_
  ·rw [ho] at U;injection U with U;subst U;have h9:=a9 d hd hb;by_cases b1:d.on<listed.size
   ·simp only [Array.getD,b1,dif_pos] at h9⊢;exact h9
   ·simp only [Array.getD,b1,dif_neg,not_false_eq_true] at h9;cases h9
  ·refine hK _ _ ?_
   have M:AY (fun k=>listed.getD k true) i true=fun k=>(listed.setIfInBounds i true).getD k true:=by
    funext k;by_cases O:k=i
    ·subst O;rw [Ex];simp [Array.getD,I]
    ·rw [upd_ne _ _ O];simp only [Array.getD,Array.size_setIfInBounds]
     split
     ·rename_i h
      show listed[k]=(listed.setIfInBounds i true)[k]'(by simpa using h);rw [Array.getElem_setIfInBounds,if_neg (Ne.symm O)]
     ·rfl
   rw [M] at b2;rw [<-ha,putAll_set v i x js a0 h2 hD G];refine ih (listed.setIfInBounds i true) (AY v i x) w' (by simpa using a6) (fun k O=>?_) ?_ b2
   ·by_cases E:k=i
    ·rw [E];exact G
    ·have:=congrFun M k;rw [upd_ne _ _ E] at this;exact D k (this.trans O)
   ·have b9:(js.filter fun k=>!(listed.setIfInBounds i true).getD k true)=(js.filter fun k=>!listed.getD k true).erase i:=by
     rw [List.Nodup.erase_eq_filter (h2.filter _),List.filter_filter];apply List.filter_congr;intro k O;have:=congrFun M k;rw [<-this];by_cases E:k=i
     ·subst E;simp [Ex]
     ·rw [upd_ne _ _ E];simp [E]
    rw [b9,List.length_erase_of_mem (za9.2 ⟨G,by show (!listed.getD i true)=true;rw [b0];rfl⟩)];omega
theorem wpAnyIn_by_inv (l n:Nat) (G:noDeferB ops=true) (js:List Nat) (J:(Nat->Bool)->(Nat->Value)->World->Prop) {w:World} (E:Ds md ops js=true) (hL:leftB ops listed js=true) (hf:js.length<=fuel)
  (init:∀e v,(∀j∈js,e j=false)->J e v w)
  (I:(js.all fun j=>!listed.getD j true)=true)
  (step:∀j∈js,∀e v w,J e v w->e j=false->(∀o,ops[j]?=some o->∀d∈o.after,Region.binds md d=true->e d.on=true)->∀o,ops[j]?=some o->∀K:Act->World->Prop,Hid (StepTo ops (fun _=>True) J js a0 j e v K)->
   if Region.wanted o (yielded ops (Ae ops v js a0).tmps)=true then Oper.wp P o (Ae ops v js a0) w K Q else K ((Ae ops v js a0).put o.dst undef) w)
  (fin:∀v w,J (fun _=>true) v w->Q .normal (Ae ops v js a0) w):wpAnyIn (Fence.wide.inRound l) n P md ops Q fuel listed a0 w:=by
 unfold leftB at hL;simp only [FK,zaF,FI,zaD] at hL
 have U:js.Nodup:=by
  unfold Ds at E;simp only [FK,FI] at E;exact E.1.1.2
 obtain ⟨v,V⟩:=Fh (ops:=ops) a0 js U
 have h:=wpAnyIn_inv l n G E step fin fuel listed v w hL.1 (fun k M=>by
  by_cases D:k<listed.size
  ·rcases hL.2 k (zaB.2 D) with h | h
   ·rw [M] at h;cases h
   ·exact h
  ·simp [Array.getD,D] at M) (FA (zan _ _) hf) (init _ _ (fun j O=>by
   have:=zaF.1 I j O;simpa using this))
 rwa [V] at h
end
section
variable {P:Program} {ops:Array Oper} {Q:Exit->Act->World->Prop} {md:Region.Mode} {S:World->Prop}
def StepToF (F:(Nat->Value)->Act) (d:Option Tmp) (S:World->Prop) (J:(Nat->Bool)->(Nat->Value)->World->Prop) (j:Nat) (e:Nat->Bool) (v:Nat->Value) (K:Act->World->Prop):Prop:=
 ∀a' x w',(F v).put d x=a'->S w'->J (AY e j true) (AY v j x) w'->K a' w'
def zl (P:Program) (ops:Array Oper) (Q:Exit->Act->World->Prop) (md:Region.Mode) (F:(Nat->Value)->Act) (S:World->Prop) (J:(Nat->Bool)->(Nat->Value)->World->Prop) (js:List Nat):Prop:=
 ∀j∈js,∀e v w,J e v w->S w->e j=false->∀o,ops[j]?=some o->(∀d∈o.after,Region.binds md d=true->e d.on=true)->∀K:Act->World->Prop,Hid (StepToF F o.dst S J j e v K)->
   if Region.wanted o (yielded ops (F v).tmps)=true then Oper.wp P o (F v) w K Q else K ((F v).put o.dst undef) w
theorem zl.nil {F:(Nat->Value)->Act} {J:(Nat->Bool)->(Nat->Value)->World->Prop}:zl P ops Q md F S J []:=fun _ h=>by cases h
theorem zl.cons {F:(Nat->Value)->Act} {J:(Nat->Bool)->(Nat->Value)->World->Prop} {j:Nat} {js:List Nat} {o:Oper} (O:ops[j]?=some o)
  (h:∀e v w (K:Act->World->Prop),J e v w->S w->e j=false->(∀d∈o.after,Region.binds md d=true->e d.on=true)->Hid (StepToF F o.dst S J j e v K)->
   if Region.wanted o (yielded ops (F v).tmps)=true then Oper.wp P o (F v) w K Q else K ((F v).put o.dst undef) w)
  (U:zl P ops Q md F S J js):zl P ops Q md F S J (j :: js):=by
 intro k hk;rcases zaz.1 hk with rfl | hk
 ·intro e v w E I he o' D M K G;rw [O] at D;injection D with D;subst D;exact h e v w K E I he M G
 ·exact U k hk
theorem Df (js:List Nat) (J:(Nat->Bool)->(Nat->Value)->World->Prop) {F:(Nat->Value)->Act} {w:World} (V:Ds md ops js=true) (hL:leftB ops listed js=true) (hf:js.length<=fuel) (D:S w)
  (hF:∀v,Ae ops v js a0=F v) (init:∀e v,(∀j∈js,e j=false)->J e v w) (U:(js.all fun j=>!listed.getD j true)=true) (step:zl P ops Q md F S J js)
  (fin:∀v w,J (fun _=>true) v w->S w->Q .normal (F v) w):wpAnyH P md ops Q S fuel listed a0 w:=by
 refine wpAnyH_by_inv js J V hL hf D init U (fun j hj e v w G D he hd o O K hK=>?_) (fun v w G D=>by rw [hF v];exact fin v w G D);have E:CT ops j=o.dst:=by unfold CT;rw [O];rfl
 have h:=step j hj e v w G D he o O (hd o O) K (fun a' x w' ha M I=>hK.out a' x w' (by rw [hF v,E];exact ha) M I);rw [hF v];exact h
theorem wpAnyIn_by_invF (l n:Nat) (I:noDeferB ops=true) (js:List Nat) (J:(Nat->Bool)->(Nat->Value)->World->Prop) {F:(Nat->Value)->Act} {w:World} (V:Ds md ops js=true) (hL:leftB ops listed js=true) (hf:js.length<=fuel)
  (hF:∀v,Ae ops v js a0=F v) (init:∀e v,(∀j∈js,e j=false)->J e v w) (U:(js.all fun j=>!listed.getD j true)=true) (step:zl P ops Q md F (fun _=>True) J js)
  (fin:∀v w,J (fun _=>true) v w->Q .normal (F v) w):wpAnyIn (Fence.wide.inRound l) n P md ops Q fuel listed a0 w:=by
 refine wpAnyIn_by_inv l n I js J V hL hf init U (fun j hj e v w E he hd o O K hK=>?_) (fun v w E=>by rw [hF v];exact fin v w E);have D:CT ops j=o.dst:=by unfold CT;rw [O];rfl
 have h:=step j hj e v w E trivial he o O (hd o O) K (fun a' x w' ha M G=>hK.out a' x w' (by rw [hF v,D];exact ha) M G);rw [hF v];exact h
end
end
end Go.Proofs.YtjomnbdjajjgfaaGreatDoor
