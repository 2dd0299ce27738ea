import Derived.Test.YtjomnbdjajjgfaaGreatDoorWKc
import Derived.Lib.SliceRun
import Derived.RangeFuncNested
import Derived.RangeFuncBound
import Derived.RangeFuncCalls
import Derived.RangeFuncLeaves
import Derived.RangeFuncBox
import Derived.Shelf.Abstract
import Derived.Maps.AppendAt
import Derived.RangeFuncWrites
import Derived.Shelf.RegionOpen
import Derived.OwnWalkIn
import Derived.TacticsInMore
import Derived.LoopNIn
import Derived.LoopIn
import Derived.Deep.RegionHeld
import Derived.CallsIn
import Derived.OrdersIn
set_option linter.unusedVariables false
set_option linter.unusedSimpArgs false
set_option maxRecDepth 100000
set_option maxHeartbeats 16000000
namespace Go.Proofs.YtjomnbdjajjgfaaGreatDoor
variable {a0:Act} {listed:Array Bool} {cs:Array Value} {from_ l used:List Int} {fuel k n:Nat} {ok1 ok2:Nat->Prop} {vf vu:Value} {W:World}
section
open Go.RowKit
attribute [local go_sem ↓] Go.wp_at_zero Go.wp_at_succ
structure AN (m:MZ):Prop where
 dim:Dim m
 fl:m.free.length=m.tasks.length
 fn:∀f∈m.free,(f.length:Int)=m.n
 tk:m.tasks.length<=6
 tn:∀t∈m.tasks,∀x,x∈t.1\/x∈t.2->0<=x/\x<m.n
theorem AN.of {m:MZ} (h:Bq m=0):AN m:=by
 unfold Bq at h
 split at h
 ·cases h
 ·rename_i h1
  have B:[m.w,m.h,m.l].any side=false:=by simpa using h1
  obtain ⟨⟨a1,a2⟩,⟨b1,b2⟩,c1,c2⟩:=sides B
  split at h
  ·cases h
  ·rename_i h2
   split at h
   ·cases h
   ·rename_i h3
    split at h
    ·cases h
    ·rename_i J
     have o:m.n<=300/\m.tasks.length<=6:=by omega
     have D:m.free.length=m.tasks.length:=by
      by_cases h:m.free.length=m.tasks.length
      ·exact h
      ·exact absurd (.inl h) h3
     have E:(m.up.length:Int)=m.n:=by
      by_cases h:(m.up.length:Int)=m.n
      ·exact h
      ·exact absurd (.inr (.inl h)) h3
     have G:∀f∈m.free,(f.length:Int)=m.n:=by
      intro f hf;by_cases h:(f.length:Int)=m.n
      ·exact h
      ·exact absurd (.inr (.inr (ET.2 ⟨f,hf,by simpa using h⟩))) h3
     refine ⟨⟨a1,a2,b1,b2,c1,c2,o.1,E⟩,D,G,o.2,fun t ht x hx=>?_⟩;by_cases I:zO m.n x=true
     ·exfalso
      apply J;refine ET.2 ⟨t,ht,?_⟩;rw [ES];rcases hx with hx | hx
      ·exact .inl (ET.2 ⟨x,hx,I⟩)
      ·exact .inr (ET.2 ⟨x,hx,I⟩)
     ·simp [zO] at I;omega
theorem AN.n1 {m:MZ} (g:AN m):1<=m.w*m.h*m.l:=by have:=g.dim.layer;omega
def Bh (m:MZ) (node:Int):List Int:=if Bq m=0/\0<=node/\node<m.n then zo m node else []
open Classical in
noncomputable def Cf (m:MZ) (t:Int) (from_ used:List Int):List Int:=if Bq m=0/\0<=t/\t<m.tasks.length then Cm m t.toNat from_ used else []
theorem rNext_calls {ok:Nat->Prop} {v:Value} {m:MZ} (node:Int) (w:World) (hm:zt w ok v m) (hl:Lens m):
  Calls Tryz.prog 89 #[v,.int .i64 node] w fun e w'=>∃v',e=.returned v'/\Mk w w' v' (Bh m node):=by
 have M:=hm;obtain ⟨vfr,vup,vts,rfl,a2,_,a3⟩:=hm;obtain ⟨vst,⟨At,ct,rfl,a7,_⟩,_⟩:=a3;have J:=zh M;clear M;have HL:=zh hl;obtain ⟨l1,l2,l3,l4⟩:=hl;clear l4 a2
 go_enter Tryz.func89,Tryz.ntmps89
 go_wp2_with fail
 generalize E:w.alloc (.cells #[.int .i64 m.w,.int .i64 m.h,.int .i64 m.l,vfr,vup,.slice At m.tasks.length ct] 32)=w1;have o:za w w1:=by rw [<-E];exact (za.refl w).alloc _
 have L:zd w1 w.heap.size 32 #[.int .i64 m.w,.int .i64 m.h,.int .i64 m.l,vfr,vup,.slice At m.tasks.length ct]:=by rw [<-E];exact EE _ _
 clear E;obtain ⟨m0,m1,m2,m3,m4,m5⟩:=zq L;have r0:=za.rule m0;have r1:=za.rule m1;have r2:=za.rule m2;have r3:=za.rule m3;have r4:=za.rule m4;have r5:=za.rule m5;clear m0 m1 m2 m3 m4 m5 L;have ra:=Bj w1;have hx:za w1 w1:=za.refl w1
 go_wp2_with fail
 refine (Cr w1 (J.out.below o) HL.out).mono ?_;rintro e wA ⟨rfl,V⟩;have I:za w1 wA:=V;clear hx;by_cases D:Bq m=0
 case neg=>
  have hd:(Bq m != 0)=true:=by simpa using D
  have U:=zh D;clear D;go_wp2;go_ret;exact ⟨_,rfl,(o.trans I).mono_mk (Mk.cast (Mk.nil _) (by unfold Bh;rw [if_neg (fun h=>U.out h.1)]))⟩
 have hd:(Bq m != 0)=false:=by simpa using D
 have G:=zh (AN.of D);have U:=zh D;clear D;obtain ⟨a9,b0⟩:=G.out.dim.layer;have b1:=G.out.dim.n1;by_cases h0:0<=node
 case neg=>
  go_wp2;go_ret;exact ⟨_,rfl,(o.trans I).mono_mk (Mk.cast (Mk.nil _) (by unfold Bh;rw [if_neg (fun h=>by have:=h.2.1;omega)]))⟩
 go_wp2_with fail
 refine (Ah _ _ _ _ _ _ _ (by omega) (by omega)).mono ?_;rintro e wB ⟨rfl,a1⟩;have B:za w1 wB:=I.trans a1;by_cases h1:node<m.w*m.h*m.l
 case neg=>
  go_wp2;go_ret;exact ⟨_,rfl,(o.trans B).mono_mk (Mk.cast (Mk.nil _) (by unfold Bh;rw [if_neg (fun h=>by have:=h.2.2;unfold MZ.n at this;omega)]))⟩
 go_wp2_with fail
 refine (Dl m node _ (J.out.below (o.trans B)) G.out.dim h0 h1).mono ?_;rintro e wC ⟨v',rfl,K,O⟩;have HM:Hid (Mk wB wC v' (zo m node)):=⟨O,K⟩;clear O;have b3:za w1 wC:=B.trans K
 go_wp2_with fail
 go_ret;exact ⟨_,rfl,(o.trans B).mono_mk (HM.out.cast (by unfold Bh;rw [if_pos ⟨U.out,h0,h1⟩]))⟩
theorem qNext_calls {ok:Nat->Prop} {v:Value} {m:MZ} (node:Int) (w:World) (hm:zt w ok v m) (hl:Lens m):
  Calls Tryz.prog 164 #[v,.int .i64 node] w fun e w'=>∃v',e=.returned v'/\Mk w w' v' (Bh m node):=by
 have M:=hm;obtain ⟨vfr,vup,vts,rfl,a2,_,a3⟩:=hm;obtain ⟨vst,⟨At,ct,rfl,a7,_⟩,_⟩:=a3;have J:=zh M;clear M;have HL:=zh hl;obtain ⟨l1,l2,l3,l4⟩:=hl;clear l4 a2
 go_enter Tryz.func164,Tryz.ntmps164
 go_wp2_with fail
 generalize E:w.alloc (.cells #[.int .i64 m.w,.int .i64 m.h,.int .i64 m.l,vfr,vup,.slice At m.tasks.length ct] 32)=w1;have o:za w w1:=by rw [<-E];exact (za.refl w).alloc _
 have L:zd w1 w.heap.size 32 #[.int .i64 m.w,.int .i64 m.h,.int .i64 m.l,vfr,vup,.slice At m.tasks.length ct]:=by rw [<-E];exact EE _ _
 clear E;obtain ⟨m0,m1,m2,m3,m4,m5⟩:=zq L;have r0:=za.rule m0;have r1:=za.rule m1;have r2:=za.rule m2;have r3:=za.rule m3;have r4:=za.rule m4;have r5:=za.rule m5;clear m0 m1 m2 m3 m4 m5 L;have ra:=Bj w1;have hx:za w1 w1:=za.refl w1
 go_wp2_with fail
 refine (Ce w1 (J.out.below o) HL.out).mono ?_;rintro e wA ⟨rfl,V⟩;have I:za w1 wA:=V;clear hx;by_cases D:Bq m=0
 case neg=>
  have hd:(Bq m != 0)=true:=by simpa using D
  have U:=zh D;clear D;go_wp2;go_ret;exact ⟨_,rfl,(o.trans I).mono_mk (Mk.cast (Mk.nil _) (by unfold Bh;rw [if_neg (fun h=>U.out h.1)]))⟩
 have hd:(Bq m != 0)=false:=by simpa using D
 have G:=zh (AN.of D);have U:=zh D;clear D;obtain ⟨a9,b0⟩:=G.out.dim.layer;have b1:=G.out.dim.n1;by_cases h0:0<=node
 case neg=>
  go_wp2;go_ret;exact ⟨_,rfl,(o.trans I).mono_mk (Mk.cast (Mk.nil _) (by unfold Bh;rw [if_neg (fun h=>by have:=h.2.1;omega)]))⟩
 go_wp2_with fail
 refine (zQ _ _ _ _ _ _ _ (by omega) (by omega)).mono ?_;rintro e wB ⟨rfl,a1⟩;have B:za w1 wB:=I.trans a1;by_cases h1:node<m.w*m.h*m.l
 case neg=>
  go_wp2;go_ret;exact ⟨_,rfl,(o.trans B).mono_mk (Mk.cast (Mk.nil _) (by unfold Bh;rw [if_neg (fun h=>by have:=h.2.2;unfold MZ.n at this;omega)]))⟩
 go_wp2_with fail
 refine (CU m node _ (J.out.below (o.trans B)) G.out.dim h0 h1).mono ?_;rintro e wC ⟨v',rfl,K,O⟩;have HM:Hid (Mk wB wC v' (zo m node)):=⟨O,K⟩;clear O;have b3:za w1 wC:=B.trans K
 go_wp2_with fail
 go_ret;exact ⟨_,rfl,(o.trans B).mono_mk (HM.out.cast (by unfold Bh;rw [if_pos ⟨U.out,h0,h1⟩]))⟩
theorem qReach_calls {ok:Nat->Prop} {v:Value} {m:MZ} (t:Int) (w:World) (hm:zt w ok v m) (hl:Lens m) (hf:zk w ok1 vf from_) (U:from_.length<=20000000000000) (hu:zk w ok2 vu used) (V:used.length<=20000000000000):
  Calls Tryz.prog 120 #[v,.int .i64 t,vf,vu] w fun e w'=>∃v',e=.returned v'/\Mk w w' v' (Cf m t from_ used):=by
 have K:=hm;obtain ⟨vfr,vup,vts,rfl,O,_,a2⟩:=hm;obtain ⟨vst,⟨At,ct,rfl,b2,_⟩,_⟩:=a2;have I:=zh K;clear K;have HL:=zh hl;obtain ⟨l1,l2,l3,l4⟩:=hl;clear l4 O;have HF:=zh hf;clear hf;have HU:=zh hu;clear hu
 go_enter Tryz.func120,Tryz.ntmps120
 go_wp2_with fail
 generalize E:w.alloc (.cells #[.int .i64 m.w,.int .i64 m.h,.int .i64 m.l,vfr,vup,.slice At m.tasks.length ct] 32)=w1;have o:za w w1:=by rw [<-E];exact (za.refl w).alloc _
 have J:zd w1 w.heap.size 32 #[.int .i64 m.w,.int .i64 m.h,.int .i64 m.l,vfr,vup,.slice At m.tasks.length ct]:=by rw [<-E];exact EE _ _
 clear E;obtain ⟨m0,m1,m2,m3,m4,m5⟩:=zq J;have r0:=za.rule m0;have r1:=za.rule m1;have r2:=za.rule m2;have r3:=za.rule m3;have r4:=za.rule m4;have r5:=za.rule m5;clear m0 m1 m2 m3 m4 m5 J;have ra:=Bj w1;have hx:za w1 w1:=za.refl w1
 go_wp2_with fail
 refine (Ce w1 (I.out.below o) HL.out).mono ?_;rintro e wA ⟨rfl,M⟩;have B:za w1 wA:=M;clear hx;by_cases D:Bq m=0
 case neg=>
  have hd:(Bq m != 0)=true:=by simpa using D
  have L:=zh D;clear D;go_wp2;go_ret;exact ⟨_,rfl,(o.trans B).mono_mk (Mk.cast (Mk.nil _) (by unfold Cf;rw [if_neg (fun h=>L.out h.1)]))⟩
 have hd:(Bq m != 0)=false:=by simpa using D
 have G:=zh (AN.of D);have L:=zh D;clear D;obtain ⟨b4,b5⟩:=G.out.dim.layer;have b6:=G.out.dim.n1;by_cases h0:0<=t
 case neg=>
  go_wp2;go_ret;exact ⟨_,rfl,(o.trans B).mono_mk (Mk.cast (Mk.nil _) (by unfold Cf;rw [if_neg (fun h=>by have:=h.2.1;omega)]))⟩
 by_cases h1:t<m.tasks.length
 case neg=>
  have b1:(m.tasks.length:Int)<=t:=by omega
  go_wp2;go_ret;exact ⟨_,rfl,(o.trans B).mono_mk (Mk.cast (Mk.nil _) (by unfold Cf;rw [if_neg (fun h=>by have:=h.2.2;omega)]))⟩
 obtain ⟨tn,rfl⟩:∃tn:Nat,t=tn:=⟨t.toNat,by omega⟩;have a1:tn<m.free.length:=by have:=G.out.fl;omega
 have a6:tn<m.tasks.length:=by omega
 go_wp2_with fail
 refine (qreach_calls tn _ (I.out.below (o.trans B)) G.out.dim a1 G.out.fn (HF.out.below (o.trans B)) U (HU.out.below (o.trans B)) V).mono ?_;rintro e wC ⟨v',rfl,hM⟩;have HM:=zh hM;clear hM;have b8:za w1 wC:=B.trans HM.out.ext
 go_wp2_with fail
 go_ret;exact ⟨_,rfl,(o.trans B).mono_mk (HM.out.cast (by unfold Cf;rw [if_pos ⟨L.out,by omega,by omega⟩];rfl))⟩
theorem rReach_calls {ok:Nat->Prop} {v:Value} {m:MZ} (t:Int) (w:World) (hm:zt w ok v m) (hl:Lens m) (hf:zk w ok1 vf from_) (d4:from_.length<=20000000000000) (hu:zk w ok2 vu used) (d6:used.length<=20000000000000):
  Calls Tryz.prog 170 #[v,.int .i64 t,vf,vu] w fun e w'=>∃v',e=.returned v'/\Mk w w' v' (Cf m t from_ used):=by
 have b1:=hm;obtain ⟨vfr,vup,vts,rfl,c8,_,d8⟩:=hm;obtain ⟨vst,⟨At,ct,rfl,f3,_⟩,_⟩:=d8;have a3:=zh b1;clear b1;have HL:=zh hl;obtain ⟨l1,l2,l3,l4⟩:=hl;clear l4 c8;have HF:=zh hf;clear hf;have HU:=zh hu;clear hu
 go_enter Tryz.func170,Tryz.ntmps170
 go_wp2_with fail
 generalize a2:w.alloc (.cells #[.int .i64 m.w,.int .i64 m.h,.int .i64 m.l,vfr,vup,.slice At m.tasks.length ct] 32)=w1;have B:za w w1:=by rw [<-a2];exact (za.refl w).alloc _
 have a7:zd w1 w.heap.size 32 #[.int .i64 m.w,.int .i64 m.h,.int .i64 m.l,vfr,vup,.slice At m.tasks.length ct]:=by rw [<-a2];exact EE _ _
 clear a2;obtain ⟨m0,m1,m2,m3,m4,m5⟩:=zq a7;have r0:=za.rule m0;have r1:=za.rule m1;have r2:=za.rule m2;have r3:=za.rule m3;have r4:=za.rule m4;have r5:=za.rule m5;clear m0 m1 m2 m3 m4 m5 a7;have ra:=Bj w1;have hx:za w1 w1:=za.refl w1
 go_wp2_with fail
 refine (Cr w1 (a3.out.below B) HL.out).mono ?_;rintro e wA ⟨rfl,c6⟩;have o:za w1 wA:=c6;clear hx;by_cases hc:Bq m=0
 case neg=>
  have hd:(Bq m != 0)=true:=by simpa using hc
  have HC:=zh hc;clear hc;go_wp2;go_ret;exact ⟨_,rfl,(B.trans o).mono_mk (Mk.cast (Mk.nil _) (by unfold Cf;rw [if_neg (fun h=>HC.out h.1)]))⟩
 have hd:(Bq m != 0)=false:=by simpa using hc
 have G:=zh (AN.of hc);have HC:=zh hc;clear hc;obtain ⟨f6,f7⟩:=G.out.dim.layer;have f8:=G.out.dim.n1;by_cases h0:0<=t
 case neg=>
  go_wp2;go_ret;exact ⟨_,rfl,(B.trans o).mono_mk (Mk.cast (Mk.nil _) (by unfold Cf;rw [if_neg (fun h=>by have:=h.2.1;omega)]))⟩
 by_cases h1:t<m.tasks.length
 case neg=>
  have f0:(m.tasks.length:Int)<=t:=by omega
  go_wp2;go_ret;exact ⟨_,rfl,(B.trans o).mono_mk (Mk.cast (Mk.nil _) (by unfold Cf;rw [if_neg (fun h=>by have:=h.2.2;omega)]))⟩
 obtain ⟨tn,rfl⟩:∃tn:Nat,t=tn:=⟨t.toNat,by omega⟩;have d7:tn<m.free.length:=by have:=G.out.fl;omega
 have e4:tn<m.tasks.length:=by omega
 go_wp2_with fail
 have g0:=zh o
 go_region_held3 (fun w'=>za w1 w'/\za wA w')
  (first | (exact CZ o) | (exact held_ext (CZ o) E) | (exact held_ext (held_ext (CZ o) E) a5))
  (first | ((go_at_call 217;refine (setOf_calls _ (HU.out.keep (zK.of_below (B.trans o.drew))) d6).mono ?_;rintro e w8 ⟨s8,rfl,E,b3,J⟩)) | ((go_at_call 206;refine (reach_calls tn _ (a3.out.keep (zK.of_below (B.trans (o.drew.trans E)))) G.out.dim d7 G.out.fn (HF.out.keep (zK.of_below (B.trans (o.drew.trans E)))) d4 b3).mono ?_;rintro e w9 ⟨s9,rfl,a5,b4,M⟩)))
 rename_i hS
 have d9:=hS.1;have L:=zh b4;clear b4;have hE:=zh (reachL_of (used:=used) (fun x=>(M x).trans ⟨fun h=>h.congr (fun _=>Iff.rfl) J,fun h=>h.congr (fun _=>Iff.rfl) (fun y=>(J y).symm)⟩));clear M;have a8:w8.heap.size+1<w9.heap.size:=zc L.out;obtain ⟨gs,I⟩:∃gs,gs=w8.heap.size+1:=⟨_,rfl⟩;rw [<-I] at L a8;have HG:=zh I;clear E b3 J hS
 go_wp2_with fail
 rw [<-HG.out];clear I a5;refine (Ah _ _ _ _ _ _ _ (by omega) (by omega)).mono ?_;rintro e wB ⟨rfl,V⟩;have e0:za w1 wB:=d9.trans V;have b8:=zh (L.out.below V);clear L a8 V;obtain ⟨N,hN⟩:∃N:Nat,m.w*m.h*m.l=(N:Int):=⟨(m.w*m.h*m.l).toNat,by omega⟩;have HN:=zh hN;clear hN;have f2:N<=300:=by have h:=HN.out;have:=G.out.dim.n1;omega
 have a4:=zh (Mk.nil wB);rw [HN.out]
 go_wp2_with fail
 go_loopw [9,34] (fun v i wr=>∃k:Nat,k<=N/\i=.int .i64 (k:Nat)/\Hid (Mk wB wr v (((List.range k).map Int.ofNat).filter (fun x=>decide (x∈s9))))) (fun _ i _=>N - (intOf i).toNat)
 case atStart=>exact ⟨0,by omega,rfl,a4⟩
 clear a4
 case round=>
  obtain ⟨j,hj,rfl,U⟩:=hrel;by_cases f5:j<N
  ·have K:((List.range (j+1)).map Int.ofNat).filter (fun x=>decide (x∈s9))=((List.range j).map Int.ofNat).filter (fun x=>decide (x∈s9))++[(j:Int)].filter (fun x=>decide (x∈s9)):=by
    rw [List.range_succ,EI,EF];rfl
   have HS:=zh K;clear K;have AO:=b8.out.below U.out.ext;by_cases D:(j:Int)∈s9
   ·have d5:=look_t AO D;have O:=zh D;clear D;have a9:(((List.range j).map Int.ofNat).filter (fun x=>decide (x∈s9))).length<=j:=DT (Eu _ _) (by simp);obtain ⟨lj,b0⟩:=EY (((List.range j).map Int.ofNat).filter (fun x=>decide (x∈s9)));rw [<-b0] at U a9 HS;clear b0;have g1:=U.out.ext.size
    go_wp2_with (at_builtin;refine AF rfl _ _ rfl _ lj (j:Int) wB.heap.size wr.heap.size 1 _ rfl rfl (U.out.own.alloc _) ?d1 ?d2 ?d3 ?_)
    (try case d1=>exact zC _ _ _ (by simp))
    case d2=>(first | (simp;done) | (simp;omega) | omega)
    case d3=>omega
    intro v' wb b2 a6 c7;have b9:=zh ((U.out.alloc _).app b2 a6);clear b2 a6 c7;go_wp2;go_roundw
    case rel=>exact ⟨j+1,by omega,by go_num,by rw [HS.out,EK (by simpa using O.out)];exact b9⟩
    case measure=>simp [intOf];omega
   ·have d5:=look_f AO D;have O:=zh D;clear D;go_wp2;go_roundw
    case rel=>exact ⟨j+1,by omega,by go_num,by rw [HS.out,Ez (by simpa using O.out),List.filter_nil,List.append_nil];exact U⟩
    case measure=>simp [intOf];omega
  ·have c9:j=N:=by omega
   subst c9
   go_wp2_with fail
   go_ret;refine ⟨_,rfl,(B.trans e0).mono_mk (U.out.cast ?_)⟩;have c0:m.n.toNat=j:=by have:m.n=(j:Int):=HN.out;omega
   unfold Cf;rw [if_pos ⟨HC.out,by omega,by omega⟩,Int.toNat_natCast,<-hE.out,c0]
def stCells (m:MZ) (f u t vc vp:Value) (gu:Nat):Array Value:=#[.int .i64 m.w,.int .i64 m.h,.int .i64 m.l,f,u,t,vc,vp,.map (some gu)]
structure BJ (w:World) (ok:Nat->Prop) (g:Nat) (m:MZ) (ch:List Int) (ps:List (List Int)) (us:List Int) (f u t vc vp:Value) (gu:Nat):Prop where
 blk:zd w g 207 (stCells m f u t vc vp gu)
 okg:ok g
 maze:zt w ok (.agg #[.int .i64 m.w,.int .i64 m.h,.int .i64 m.l,f,u,t]) m
 ch:zk w ok vc ch
 ps:zR w ok vp ps
 oku:ok gu
 us:zG w gu us
def CC (w:World) (ok:Nat->Prop) (v:Value) (m:MZ) (ch:List Int) (ps:List (List Int)) (us:List Int):Prop:=
 ∃g f u t vc vp gu,v=.pointer (some ⟨g,0,none⟩)/\BJ w ok g m ch ps us f u t vc vp gu
section
variable {w w':World} {ok ok':Nat->Prop} {v f u t vc vp:Value} {m:MZ} {ch us:List Int} {ps:List (List Int)} {g gu:Nat}
theorem BJ.keep (h:BJ w ok g m ch ps us f u t vc vp gu) (o:zK ok w w'):BJ w' ok g m ch ps us f u t vc vp gu:=
 ⟨(o g h.okg (zc h.blk)).trans h.blk,h.okg,h.maze.keep o,h.ch.keep o,h.ps.keep o,h.oku,h.us.keep o h.oku⟩
theorem BJ.weaken (h:BJ w ok g m ch ps us f u t vc vp gu) (o:∀b,ok b->ok' b):BJ w ok' g m ch ps us f u t vc vp gu:=
 ⟨h.blk,o _ h.okg,h.maze.weaken o,h.ch.weaken o,h.ps.weaken o,o _ h.oku,h.us⟩
theorem CC.keep (h:CC w ok v m ch ps us) (o:zK ok w w'):CC w' ok v m ch ps us:=by
 obtain ⟨g,f,u,t,vc,vp,gu,e,h⟩:=h;exact ⟨g,f,u,t,vc,vp,gu,e,h.keep o⟩
theorem CC.weaken (h:CC w ok v m ch ps us) (o:∀b,ok b->ok' b):CC w ok' v m ch ps us:=by
 obtain ⟨g,f,u,t,vc,vp,gu,e,h⟩:=h;exact ⟨g,f,u,t,vc,vp,gu,e,h.weaken o⟩
theorem CC.below (h:CC w ok v m ch ps us) (o:Below w.heap.size w w'):CC w' ok v m ch ps us:=h.keep (zK.of_below o)
theorem BJ.ext (h:BJ w ok g m ch ps us f u t vc vp gu) (o:za w w'):BJ w' ok g m ch ps us f u t vc vp gu:=h.keep (zK.of_below o)
theorem BJ.rules (h:BJ w ok g m ch ps us f u t vc vp gu):
  (∀W,za w W->W.cell? ⟨g,0,none⟩=some (.int .i64 m.w))/\(∀W,za w W->W.cell? ⟨g,1,none⟩=some (.int .i64 m.h))/\(∀W,za w W->W.cell? ⟨g,2,none⟩=some (.int .i64 m.l))/\
  (∀W,za w W->W.cell? ⟨g,3,none⟩=some f)/\(∀W,za w W->W.cell? ⟨g,4,none⟩=some u)/\(∀W,za w W->W.cell? ⟨g,5,none⟩=some t)/\
  (∀W,za w W->W.cell? ⟨g,6,none⟩=some vc)/\(∀W,za w W->W.cell? ⟨g,7,none⟩=some vp)/\(∀W,za w W->W.cell? ⟨g,8,none⟩=some (.map (some gu))):=by
 have B:=h.blk;unfold zd stCells at B
 have o:∀k x,(#[Value.int .i64 m.w,.int .i64 m.h,.int .i64 m.l,f,u,t,vc,vp,.map (some gu)]:Array Value)[k]?=some x->w.cell? ⟨g,k,none⟩=some x:=by
  intro k x D;unfold World.cell?;simp only [B];exact D
 exact ⟨za.rule (o 0 _ rfl),za.rule (o 1 _ rfl),za.rule (o 2 _ rfl),za.rule (o 3 _ rfl),za.rule (o 4 _ rfl),za.rule (o 5 _ rfl),za.rule (o 6 _ rfl),za.rule (o 7 _ rfl),za.rule (o 8 _ rfl)⟩
end
structure SOk (m:MZ) (ch:List Int) (ps:List (List Int)):Prop where
 good:AN m
 lens:Lens m
 pl:ps.length<=m.tasks.length
 pn:0<m.tasks.length->0<ps.length
 pp:∀p∈ps,p.length<=1000
 pr:∀p∈ps,∀x∈p,0<=x/\x<m.n
 cl:ch.length<=1000
def finB (m:MZ) (ps:List (List Int)):Bool:=
 match (ps.getD (ps.length - 1) []).getLast? with
 | none=>false
 | some x=>decide (x∈(m.tasks.getD (ps.length - 1) ([],[])).2)
def cmpB (m:MZ) (ps:List (List Int)):Bool:=decide (m.tasks.length=0) || (decide (ps.length=m.tasks.length) && finB m ps)
theorem Dj {w:World}:za w w.drew:=(za.refl w).drew
theorem CO {ok:Nat->Prop} {m:MZ} {ch us:List Int} {ps:List (List Int)} {g gu:Nat} {f u t vc vp:Value} (w:World) (h:BJ w ok g m ch ps us f u t vc vp gu) (B:ps.length<=20000000000000):
  Calls Tryz.prog 199 #[.pointer (some ⟨g,0,none⟩)] w fun e w'=>e=.returned (.int .i64 ((ps.length:Int) - 1))/\w=w':=by
 obtain ⟨r0,r1,r2,r3,r4,r5,r6,r7,r8⟩:=h.rules;obtain ⟨vs,⟨Ap,cp,rfl,o,_⟩,_⟩:=h.ps;clear h;have D:=za.refl w
 go_enter Tryz.func199,Tryz.ntmps199
 go_wp2;go_ret;exact ⟨rfl,rfl⟩
theorem Dz {ok:Nat->Prop} {m:MZ} {ch us:List Int} {ps:List (List Int)} {g gu:Nat} {f u t vc vp:Value} (w:World) (h:BJ w ok g m ch ps us f u t vc vp gu) (so:SOk m ch ps) (hp:0<ps.length):
  Calls Tryz.prog 204 #[.pointer (some ⟨g,0,none⟩)] w fun e w'=>e=.returned (.bool (finB m ps))/\zZ w w':=by
 obtain ⟨r0,r1,r2,r3,r4,r5,r6,r7,r8⟩:=h.rules;have c9:=h.ps;have c8:=h.maze;have HS:=zh h;clear h;obtain ⟨vs,⟨Ap,cp,rfl,d9,b3⟩,a5⟩:=c9;obtain ⟨fr',up',ts',he,_,_,a2⟩:=c8;injection he with he;injection he with he;simp only [List.cons.injEq,and_true,true_and] at he;obtain ⟨rfl,rfl,rfl⟩:=he;have d5:=a2;obtain ⟨vst,⟨At,ct,rfl,e0,_⟩,_⟩:=d5;have hk:ps.length - 1<ps.length:=by omega
 obtain ⟨b,off,up,rfl,_,D,b5⟩:=Br b3 a5 hk hk;have E:ps.length - 1<m.tasks.length:=by have:=so.pl;omega
 obtain ⟨bt,offt,sn,u1,u2,rfl,_,c6,a3,U,a6,V⟩:=Bm a2 E;have b4:=so.lens;have e3:=so.pl;have e9:=so.good.tk;have K:=so.pp _ (DS hk);have b0:=(b4.tl _ (DS E)).2;clear b4 b3 a5 a2
 have B:finB m ps=match (ps[ps.length - 1]).getLast? with | none=>false | some x=>decide (x∈(m.tasks[ps.length - 1]).2):=by
  unfold finB;simp [hk,E]
 obtain ⟨p,b1⟩:=EY (ps[ps.length - 1]);obtain ⟨tk,M⟩:=EY (m.tasks[ps.length - 1]);rw [<-b1] at b5 K B;rw [<-M] at a6 V b0 B;clear b1 M a6;have b9:=zh V;clear V;have HF:=zh B;clear B;obtain ⟨Aq,cq,rfl,I,a1⟩:=b5;obtain ⟨k,a9⟩:∃k,ps.length - 1=k:=⟨_,rfl⟩;rw [a9] at D a3 U E;have a8:(ps.length:Int) - 1=(k:Int):=by omega
 have O:=zh a8;clear a8;have e2:(k:Int)<(ps.length:Int):=by omega
 have e1:(0:Int)<=(k:Int):=by omega
 have d7:(k:Int)<(m.tasks.length:Int):=by omega
 have rp:=za.rule D;have rt:=za.rule U;clear D c6 a3 U a9 hk E;have hx:=za.refl w;rcases List.eq_nil_or_concat p with rfl | ⟨q,x,rfl⟩
 ·have hz:([]:List Int).length=0:=rfl;rw [hz] at I
  go_enter Tryz.func204,Tryz.ntmps204
  go_wp2_with fail
  go_quiet ((go_at_call 199;refine (CO _ (HS.out.ext ((za.refl w).drewN _)) (by omega)).mono ?_;rintro e w9 ⟨o,rfl⟩;rw [O.out] at o;exact ⟨o,⟨_,rfl⟩⟩))
  go_wp2_with fail
  go_quiet (fail)
  go_wp2;go_ret;exact ⟨zi (by rw [HF.out];rfl),(zZ.refl w).more _ |>.more _⟩
 ·rw [List.concat_eq_append] at a1 K I HF;have b2:(q++[x]).length=q.length+1:=by simp
  rw [b2] at I K
  have J:∃bq offq,Aq=some ⟨bq,offq,none⟩/\w.cell? ⟨bq,offq+q.length,none⟩=some (.int .i64 x):=by
   obtain ⟨bq,offq,e,_,hc⟩:=zE a1 (k:=q.length) (by omega) (by omega);exact ⟨bq,offq,e,by rw [hc];simp⟩
  obtain ⟨bq,offq,rfl,J⟩:=J;have rx:=za.rule J;clear J a1;have G:(q++[x]).getLast?=some x:=by simp
  rw [G] at HF;have L:(q.concat x).length=q.length+1:=by simp
  rw [L] at rp;clear G b2 L;generalize q.length=n at*;obtain ⟨N,hN⟩:=EY (n+1);rw [<-hN] at rp I K;have e4:(0:Int)<=(n:Int):=by omega
  have e5:(n:Int)<(N:Int):=by omega
  have d4:(N:Int) - 1=(n:Int):=by omega
  have e6:(0:Int)<(N:Int):=by omega
  have e7:0<N:=by omega
  have e8:IntKind.i64.wrap ((N:Int) - 1)=(n:Int):=by rw [Em];omega
  clear hN d4
  go_enter Tryz.func204,Tryz.ntmps204
  go_wp2_with fail
  go_quiet ((go_at_call 199;refine (CO _ (HS.out.ext ((za.refl w).drewN _)) (by omega)).mono ?_;rintro e w9 ⟨o,rfl⟩;rw [O.out] at o;exact ⟨o,⟨_,rfl⟩⟩))
  generalize b6:w.drewN nq=w1;have a4:zZ w w1:=⟨nq,b6.symm⟩;have b7:za w w1:=a4.below _;clear b6
  go_wp2_with fail
  go_quiet (first | ((go_at_call 199;refine (CO _ (HS.out.ext (b7.drewN _)) (by omega)).mono ?_;rintro e w9 ⟨o,rfl⟩;rw [O.out] at o;exact ⟨o,⟨_,rfl⟩⟩)) | ((go_at_call 130;refine (Ai x _ (b9.out.below (b7.drewN _)) (by omega)).mono ?_;rintro e w8 ⟨c7,rfl⟩;exact ⟨c7,⟨_,rfl⟩⟩)))
  go_wp2;go_ret;exact ⟨zi (by rw [HF.out]),a4.more _⟩
theorem complete_calls {ok:Nat->Prop} {m:MZ} {ch us:List Int} {ps:List (List Int)} {g gu:Nat} {f u t vc vp:Value} (w:World) (h:BJ w ok g m ch ps us f u t vc vp gu) (so:SOk m ch ps):
  Calls Tryz.prog 151 #[.pointer (some ⟨g,0,none⟩)] w fun e w'=>e=.returned (.bool (cmpB m ps))/\zZ w w':=by
 obtain ⟨r0,r1,r2,r3,r4,r5,r6,r7,r8⟩:=h.rules;have a4:=h.ps;have a3:=h.maze;have HS:=zh h;clear h;obtain ⟨vs,⟨Ap,cp,rfl,L,a5⟩,a2⟩:=a4;obtain ⟨fr',up',ts',he,_,_,a7⟩:=a3;injection he with he;injection he with he;simp only [List.cons.injEq,and_true,true_and] at he;obtain ⟨rfl,rfl,rfl⟩:=he;obtain ⟨vst,⟨At,ct,rfl,M,_⟩,_⟩:=a7;have G:=so.pl;have D:=so.pn;have a6:=so.good.tk;have SO:=zh so;clear so;clear a5 a2;have hx:=za.refl w;obtain ⟨cb,B⟩:=EY (cmpB m ps);have o:=zh B;rw [<-B];clear B;unfold cmpB at o;obtain ⟨T,K⟩:=EY m.tasks.length;obtain ⟨Pn,J⟩:=EY ps.length;rw [<-K] at r5 M o G D a6;rw [<-J] at r7 L o G D;have HT:=zh K;clear K;have HP:=zh J;clear J;by_cases h0:T=0
 ·have E:Hid (cb=true):=by have:=o.out;rw [DU h0] at this;simpa [Hid] using this
  have O:decide ((T:Int)=0)=true:=DU (by omega);have U:((T:Int)==0)=true:=by rw [beq_iff_eq];omega
  clear h0 D
  go_enter Tryz.func151,Tryz.ntmps151
  go_wp2_with fail
  go_quiet (fail)
  go_wp2;go_ret;exact ⟨zi E.out.symm,(zZ.refl w).more _⟩
 ·have O:decide ((T:Int)=0)=false:=DV (by omega);have U:((T:Int)==0)=false:=by rw [Ee];omega
  by_cases h1:Pn=T
  ·have E:Hid (cb=finB m ps):=by have:=o.out;rw [DV h0,DU h1] at this;simpa [Hid] using this
   have I:Hid (0<ps.length):=(by have:=HP.out;omega:0<ps.length);subst h1;have V:((Pn:Int)==(Pn:Int))=true:=by rw [beq_iff_eq]
   clear h0
   go_enter Tryz.func151,Tryz.ntmps151
   go_wp2_with fail
   go_quiet ((go_at_call 204;refine (Dz _ (HS.out.ext ((za.refl w).drewN _)) SO.out I.out).mono ?_;rintro e w9 ⟨a1,nd,rfl⟩;exact ⟨a1,⟨_,World.drewN_drewN _ _ _⟩⟩))
   go_wp2;go_ret;exact ⟨zi E.out.symm,(zZ.refl w).more _⟩
  ·have E:Hid (cb=false):=by have:=o.out;rw [DV h0,DV h1] at this;simpa [Hid] using this
   have a9:decide ((Pn:Int)=(T:Int))=false:=DV (by omega);have V:((Pn:Int)==(T:Int))=false:=by rw [Ee];omega
   clear h1 h0
   go_enter Tryz.func151,Tryz.ntmps151
   go_wp2_with fail
   go_quiet (fail)
   go_wp2;go_ret;exact ⟨zi E.out.symm,(zZ.refl w).more _⟩
theorem Tryz.infoInts:(Tryz.prog.info? 23).map (fun i=>(i.zero,i.size,i.bytes))=some (some (.slice none 0 0),1,24):=by kernel_rfl
def BN (w:World) (B:Nat) (v:Value) (vs:List Value):Prop:=w.ownsRow B 23 1 v vs.length vs
theorem ints_oneCell {w:World} {ok:Nat->Prop} {v:Value} (h:zk w ok v l):v.oneCell'=true:=by
 obtain ⟨A,c,rfl,_⟩:=h;rfl
theorem AY {ok:Nat->Prop} {ops:Array Oper} {rest:List Oper} {o:Oper} {a:Act} {Q:Exit->Act->World->Prop} (E:o.guard=none) (W:World) (s x:Operand)
  (U:o.op=.call { callee:=.builtin .append,args:=#[s,x],argTypes:=#[22,22] }) (base:Nat) (l l2:List Value) (v u:Value) (hs:a.eval s=v) (hx:a.eval x=u)
  (D:BN W base v l) (hu:Ae W ok 1 u l2.length l2) (h1:∀u∈l2,u.oneCell'=true) (B:base<=W.heap.size) (hl:l.length+l2.length<=1000000000000)
  (h:∀v' w',BN w' base v' (l++l2)->Hid (W.grownBy w' v.ownBlock)->Hid (v'.ownBlock=v.ownBlock\/v'.ownBlock=some W.heap.size)->wpList Tryz.prog ops Q rest (a.put o.dst v') w'):wpList Tryz.prog ops Q (o :: rest) a W:=by
 refine wpList_plain E fun K M=>?_
 obtain ⟨i0,O,G,I,J⟩:=info_parts Tryz.infoInts;obtain ⟨v',w',V,h2,h3,L⟩:=DF (ok:=ok) W base 22 o.type 23 i0 (.slice none 0 0) 24 Tryz.underlying22 O G I J rfl v _ _ D u _ _ hu h1 (by unfold maxLen;omega) (by omega) B;unfold Oper.wp execOp;simp only [U,resolve,invoke,builtin,Sem.run_bind,Sem.run_pure,Result.andThen_ok,List.map_toArray,List.map_cons,List.map_nil,hs,hx,V];refine M _ _ (h v' w' ?_ h3 L);unfold BN;rw [DZ];exact h2
theorem slice_own {g c:Nat} (h:(Value.slice (some ⟨g,0,none⟩) n c).ownBlock=some k):g<=k:=by
 have h:some g=some k:=h;injection h with h;omega
theorem own_emptyL (W:World) (B:Nat) (o:B<=W.heap.size):BN (W.alloc (.cells #[] 23)) B (.slice (some ⟨W.heap.size,0,none⟩) 0 0) []:=
 ⟨rfl,.inr ⟨W.heap.size,0,#[],rfl,o,EE W _,DR _,by decide,rfl,rfl⟩⟩
theorem nilEq (t e:TypeId) (ht:Tryz.prog.underlying t=some (.slice e)):∀(w:World) (a:Option Addr) (n c n' c':Nat),(binOp .eql t (.slice a n c) (.slice none n' c')).run Tryz.prog w=.ok (.bool a.isNone) w:=fun w a n c n' c'=>Lib.run_eql_slice_nil w _ _ a n c n' c' ht
theorem cloneI_calls {ok:Nat->Prop} {v:Value} (w:World) (h:zk w ok v l) (L:l.length<=100000000000):
  Calls Tryz.prog 92 #[v] w fun e w'=>∃v',e=.returned v'/\Mk w w' v' l:=by
 have H:=zh h;have E:=nilEq 23 3 Tryz.underlying23;obtain ⟨A,c,rfl,K,B⟩:=h;rcases A with _ | a
 ·have o:l=[]:=by
   rcases EC l.length with h | h
   ·exact Ei h
   ·obtain ⟨b,off,e,_⟩:=B.2 h;cases e
  subst o;clear B
  go_enter Tryz.func92,Tryz.ntmps92
  go_wp2_with fail
  go_ret;exact ⟨_,rfl,Mk.nil _⟩
 ·clear B;have M:=za.refl w
  go_enter Tryz.func92,Tryz.ntmps92
  go_wp2_with (at_builtin;refine Bn (ok:=ok) rfl _ _ _ rfl w.heap.size [] l _ _ rfl rfl (CB w w.heap.size (DR _)) (H.out.below ((za.refl w).alloc _)) ?d1 ?d2 ?_)
  case d1=>simp
  case d2=>simp;omega
  intro v' w1 G D _;have I:Hid (Mk w w1 v' l):=⟨G,zS ((za.refl w).alloc _) D (by simp) (fun k J=>slice_own J)⟩;clear G D
  go_wp2_with fail
  go_ret;exact ⟨_,rfl,I.out⟩
theorem cloneL_calls {ok:Nat->Prop} {v:Value} {vs:List Value} (w:World) (h:Ae w ok 1 v vs.length vs) (h1:∀u∈vs,u.oneCell'=true) (O:vs.length<=100000000000):
  Calls Tryz.prog 185 #[v] w fun e w'=>∃v',e=.returned v'/\za w w'/\BN w' w.heap.size v' vs:=by
 have H:=zh h;have I:=zh h1;clear h1;have E:=nilEq 22 23 Tryz.underlying22;obtain ⟨A,c,rfl,M,B⟩:=h;rcases A with _ | a
 ·have o:vs=[]:=by
   rcases EC vs.length with h | h
   ·exact Ei h
   ·obtain ⟨b,off,e,_⟩:=B.2 h;cases e
  subst o;clear B
  go_enter Tryz.func185,Tryz.ntmps185
  go_wp2_with fail
  go_ret;exact ⟨_,rfl,za.refl _,World.ownsRow_nil _ _ _ _⟩
 ·clear B;have U:=za.refl w
  go_enter Tryz.func185,Tryz.ntmps185
  go_wp2_with (at_builtin;refine AY (ok:=ok) rfl _ _ _ rfl w.heap.size [] vs _ _ rfl rfl (own_emptyL w w.heap.size (DR _)) (H.out.below ((za.refl w).alloc _)) I.out ?d1 ?d2 ?_)
  case d1=>simp
  case d2=>simp;omega
  intro v' w1 G D _;have K:za w w1:=zS ((za.refl w).alloc _) D (by simp) (fun k L=>slice_own L);have J:=zh G;clear G D
  go_wp2_with fail
  go_ret;exact ⟨_,rfl,K,J.out⟩
def ps0 (m:MZ):List (List Int):=if m.tasks.length=0 then [] else [[]]
theorem zd.set {w:World} {g:Nat} {t:TypeId} (h:zd w g t cs) (v:Value):zd (w.setCell ⟨g,k,none⟩ v) g t (cs.setIfInBounds k v):=by
 unfold zd at h⊢;simp [World.setCell,Array.getElem?_modify,h]
theorem zd.setOther {w:World} {g:Nat} {t:TypeId} (h:zd w g t cs) {a:Addr} (o:g≠a.block) (v:Value):zd (w.setCell a v) g t cs:=
 (Ea w a v g o).trans h
theorem zd.ext {w w':World} {g:Nat} {t:TypeId} (h:zd w g t cs) (o:za w w'):zd w' g t cs:=(o.block g (zc h)).trans h
theorem zd.cell {w:World} {g k:Nat} {t:TypeId} {cs:Array Value} {v:Value} (h:zd w g t cs) (o:cs[k]?=some v):w.cell? ⟨g,k,none⟩=some v:=by
 unfold zd at h;unfold World.cell?;simp only [h];exact o
theorem zd.frozen {w:World} {g:Nat} {t:TypeId} {cs:Array Value} (h:zd w g t cs) (k:Nat):w.frozen? ⟨g,k,none⟩=false:=by
 unfold zd at h;unfold World.frozen?;simp [h]
theorem zd.new (w:World) (cs:Array Value) (t:TypeId) {g:Nat} (o:g=w.heap.size):zd (w.alloc (.cells cs t)) g t cs:=by
 subst o;exact EE _ _
theorem BJ.make {ok ok':Nat->Prop} {w:World} {g gu:Nat} {m:MZ} {ch us:List Int} {ps:List (List Int)} {f u t vc vp:Value} (G:za w W) (hm:zt w ok (.agg #[.int .i64 m.w,.int .i64 m.h,.int .i64 m.l,f,u,t]) m)
  (K:∀b,ok b->ok' b) (I:zd W g 207 (stCells m f u t vc vp gu)) (J:ok' g) (o:zk W ok' vc ch) (D:zR W ok' vp ps) (B:ok' gu) (E:zG W gu us):BJ W ok' g m ch ps us f u t vc vp gu:=
 ⟨I,J,(hm.below G).weaken K,o,D,B,E⟩
theorem zR.nil (w:World) (ok:Nat->Prop):zR w ok (.slice none 0 0) []:=⟨[],⟨none,0,rfl,DR _,AE.nil _ _ _ _⟩,by simp⟩
theorem AE.block {w:World} {ok:Nat->Prop} {g:Nat} {t:TypeId} (h:zd w g t cs) (o:ok g) (B:cs.size=n):AE w ok 1 (some ⟨g,0,none⟩) n cs.toList:=
 ⟨by simp [B],fun _=>⟨g,0,rfl,o,fun j u D=>by rw [Nat.zero_add];exact h.cell (by simpa using D)⟩⟩
theorem begin_calls {ok:Nat->Prop} {v:Value} {m:MZ} (w:World) (hm:zt w ok v m) (hl:m.tasks.length<=100000):
  Calls Tryz.prog 146 #[v] w fun e w'=>∃v',e=.returned v'/\za w w'/\CC w' (fun b=>ok b\/w.heap.size<=b) v' m [] (ps0 m) []:=by
 have B:=hm;obtain ⟨vfr,vup,vts,rfl,_,_,a2⟩:=hm;obtain ⟨vst,⟨At,ct,rfl,a6,_⟩,_⟩:=a2;have a7:=@run_makeMap Tryz.prog;by_cases h0:m.tasks.length=0
 ·have o:ps0 m=[]:=by unfold ps0;rw [if_pos h0]
  rw [h0] at B;have E:=zh B;clear B;have HP:=zh o;clear o
  go_enter Tryz.func146,Tryz.ntmps146
  go_wp2_with fail
  go_ret;rw [HP.out];have D:za w (w.alloc (.cells #[.int .i64 m.w,.int .i64 m.h,.int .i64 m.l,vfr,vup,.slice At 0 ct] 32)):=(za.refl w).alloc _;refine ⟨_,rfl,(D.alloc _).alloc _,w.heap.size+2,_,_,_,_,_,w.heap.size+1,rfl,BJ.make ((D.alloc _).alloc _) E.out (fun _ h=>.inl h) (zd.new _ _ _ (by simp)) (.inr (by omega)) (zk.nil _ _) (zR.nil _ _) (.inr (by omega)) ?_⟩
  have h1:zG ((w.alloc (.cells #[.int .i64 m.w,.int .i64 m.h,.int .i64 m.l,vfr,vup,.slice At 0 ct] 32)).alloc (.map #[] 0)) (w.heap.size+1) []:=by
   have:=zG.new (w.alloc (.cells #[.int .i64 m.w,.int .i64 m.h,.int .i64 m.l,vfr,vup,.slice At 0 ct] 32));simpa using this
  exact h1.below ((za.refl _).alloc _)
 ·have o:ps0 m=[[]]:=by unfold ps0;rw [if_neg h0]
  have E:=zh B;clear B;have HP:=zh o;clear o
  go_enter Tryz.func146,Tryz.ntmps146
  go_wp2_with fail
  go_ret;rw [HP.out];generalize K:w.alloc (.cells #[.int .i64 m.w,.int .i64 m.h,.int .i64 m.l,vfr,vup,.slice At m.tasks.length ct] 32)=w1;have D:za w w1:=by rw [<-K];exact (za.refl w).alloc _
  have L:w1.heap.size=w.heap.size+1:=by rw [<-K];simp
  have h1:zG (w1.alloc (.map #[] 0)) (w.heap.size+1) []:=by rw [<-L];exact zG.new w1
  have O:za w (w1.alloc (.map #[] 0)):=D.alloc _;generalize a3:w1.alloc (.map #[] 0)=w2 at*;have a5:w2.heap.size=w.heap.size+2:=by rw [<-a3];simp [L]
  generalize G:w2.alloc (.cells #[.int .i64 m.w,.int .i64 m.h,.int .i64 m.l,vfr,vup,.slice At m.tasks.length ct,.slice none 0 0,.slice (some ⟨w.heap.size+1+1+1,0,none⟩) 1 1,.map (some (w.heap.size+1))] 207)=w3;have U:zd w3 (w.heap.size+2) 207 (stCells m vfr vup (.slice At m.tasks.length ct) (.slice none 0 0) (.slice (some ⟨w.heap.size+3,0,none⟩) 1 1) (w.heap.size+1)):=by rw [<-G];exact zd.new _ _ _ (by omega)
  have a8:w3.heap.size=w.heap.size+3:=by rw [<-G];simp [a5]
  have M:za w2 w3:=by rw [<-G];exact (za.refl _).alloc _
  have I:=M.alloc (.cells #[.slice none 0 0] 23);have J:=O.trans I;have V:=U.alloc (.cells #[.slice none 0 0] 23);have a1:zd (w3.alloc (.cells #[.slice none 0 0] 23)) (w.heap.size+3) 23 #[.slice none 0 0]:=zd.new _ _ _ (by omega);refine ⟨_,rfl,J,w.heap.size+2,_,_,_,_,_,w.heap.size+1,rfl,BJ.make J E.out (fun _ h=>.inl h) V (.inr (by omega)) (zk.nil _ _) ?_ (.inr (by omega)) (h1.below I)⟩
  ·exact ⟨[.slice none 0 0],⟨some ⟨w.heap.size+3,0,none⟩,1,rfl,DR _,AE.block a1 (.inr (by omega)) rfl⟩,fun i x hx=>by
    match i,hx with
    | 0,hx=>
     have:x=[]:=by simpa using hx.symm
     subst this;exact ⟨_,rfl,zk.nil _ _⟩⟩
end
section
open Go.RowKit Go.Shelf
attribute [local go_sem] Oper.semAt_some
theorem values1_in (F:Fence) (n:Nat) (h7:F.fn 226) (V:F.round=none) (hn:1<=n) (l Bs n₀:Nat) (A:Option Addr) (cap:Nat) (zs:List Int) (a3:zs.length<=1000000000000) (J Jx:List Int->World->Prop)
  (hY:∀pre x W,J pre W->pre.length<zs.length->YieldAt F (n - 1) Tryz.prog l #[.int .i64 x] W fun e W'=>
   (e=.returned (.bool true)/\J (pre++[x]) W'/\Below n₀ W W')\/(e=.returned (.bool false)/\Jx (pre++[x]) W'))
  (W:World) (a8:W.cell? ⟨Bs,0,none⟩=some (.slice A zs.length cap)) (hc:∀(j:Nat) (hj:j<zs.length),∃b off,A=some ⟨b,off,none⟩/\b<n₀/\W.cell? ⟨b,off+j,none⟩=some (.int .i64 (zs[j]))) (h0:J [] W):
  CallsIn F n Tryz.prog 226 #[.func (.yield l) #[] #[],.pointer (some ⟨Bs,0,none⟩)] W fun e W'=>(∃v,e=.returned v)/\
   ((∃ys,ys=zs/\J ys W')\/(∃pre,pre <+: zs/\Jx pre W')):=by
 have HC:=zh hc;clear hc;refine callsIn_of_wp Tryz.func226 rfl h7 ?_ V;simp only [Tryz.ntmps226,List.size_toArray,EW,EX,Nat.reduceAdd,Nat.reduceSub,Array.replicate_succ,Array.replicate_zero,List.push_toArray,List.append_toArray,List.nil_append,List.cons_append]
 gi_wp2
 gi_loopw [7] (fun i wr=>∃k:Nat,k<=zs.length/\i=.int .i64 k/\Hid (J (zs.take k) wr)/\Hid (Below n₀ W wr))
  (fun i _=>zs.length - (intOf i).toNat)
 case atStart=>exact ⟨0,Ef _,rfl,h0,Below.refl _ _⟩
 case round=>
  obtain ⟨k,hk,rfl,I,M⟩:=hrel;by_cases L:k<zs.length
  ·obtain ⟨b,off,rfl,hb,B⟩:=HC.out k L;have U:wr.cell? ⟨b,off+k,none⟩=some (.int .i64 (zs[k])):=(M.out.cell (p:=⟨b,off+k,none⟩) hb).trans B;clear B;have E:=zh (DY L);obtain ⟨x,hx⟩:=EY (zs[k]);rw [<-hx] at U E;clear hx;obtain ⟨fn,tmps,assign,body,hy,hR⟩:=hY _ x wr I.out (by simp;omega);have HR:=zh hR;clear hR
   gi_wp2
   refine HR.out.mono ?_;rintro e W3 (⟨rfl,G,K⟩ | ⟨rfl,o⟩)
   ·have D:=zh G;clear G;have O:=zh K;clear K
    gi_wp2
    go_roundw
    case rel=>exact ⟨k+1,by omega,by go_num,by rw [E.out];exact D,M.out.trans O.out⟩
    case measure=>simp [intOf];omega
   ·have D:=zh o;clear o
    gi_wp2
    refine EL (results_none rfl _ _ _) rfl ?_;exact ⟨⟨_,rfl⟩,.inr ⟨_,List.take_prefix (k+1) zs,by rw [E.out];exact D.out⟩⟩
  ·obtain rfl:k=zs.length:=by omega
   gi_wp2
   go_end0
   exact ⟨⟨_,rfl⟩,.inl ⟨_,rfl,by have:=I.out;rwa [Ec] at this⟩⟩
theorem values_stops {ok:Nat->Prop} {v:Value} (Bs n₀ n:Nat) (U:1<=n) (w:World) (E:Bs<w.heap.size) (hn₀:n₀<=w.heap.size) (O:w.cell? ⟨Bs,0,none⟩=some v) (h:zk w ok v l) (G:∀b,ok b->b<w.heap.size->b<n₀) (B:l.length<=1000000000000):
  SeqStopsK Fence.wide n Tryz.prog 226 #[.pointer (some ⟨Bs,0,none⟩)] (fun x:Int=>#[Value.int .i64 x]) (Below n₀) (fun ys=>ys=l) (fun pre=>pre <+: l) l.length w:=fun lb J Jx W hW _ _ L h0=>by
 obtain ⟨A,cap,rfl,I,V⟩:=h;refine values1_in Fence.wide n trivial rfl U lb Bs n₀ A cap l B J Jx L W ((hW.cell (p:=⟨Bs,0,none⟩) E).trans O) (fun j K=>?_) h0;obtain ⟨b,off,e,M,o⟩:=zE V K K;have D:=zA o;exact ⟨b,off,e,G b M D,(hW.cell (p:=⟨b,off+j,none⟩) D).trans o⟩
theorem zk.bound {w:World} {ok:Nat->Prop} {v:Value} (h:zk w ok v l):zk w (fun b=>ok b/\b<w.heap.size) v l:=by
 obtain ⟨A,c,e,G,I,o⟩:=h;refine ⟨A,c,e,G,I,fun D=>?_⟩;obtain ⟨b,off,e',E,B⟩:=o D;have h0:0<(l.map (Value.int .i64)).length:=by simpa using D
 exact ⟨b,off,e',⟨E,zA (B 0 _ (DO h0))⟩,B⟩
theorem appendSeq_calls {ok:Nat->Prop} {v:Value} (Bs:Nat) (w:World) (U:w.cell? ⟨Bs,0,none⟩=some v) (h:zk w ok v l) (M:l.length<=1000000000000):
  Calls Tryz.prog 238 #[.slice none 0 0,.func (.func 226) #[] #[.pointer (some ⟨Bs,0,none⟩)]] w fun e w'=>∃v',e=.returned v'/\Mk w w' v' l:=by
 refine (callsIn_wide (n:=6)).1 ?_;obtain ⟨i0,hi,a4,a5,a6⟩:=info_parts Tryz.infoInt;have HI:=zh h;clear h;have a8:=zA U;refine callsIn_of_wp_marks Tryz.func238 rfl trivial ?_ rfl;simp only [Tryz.ntmps238,List.size_toArray,EW,EX,Nat.reduceAdd,Nat.reduceSub,Array.replicate_succ,Array.replicate_zero,List.push_toArray,List.append_toArray,List.nil_append,List.cons_append]
 gi_wp2
 have bO:=Boxed.new w 23 (.slice none 0 0);have I:Below w.heap.size w (w.alloc (.cells #[.slice none 0 0] 23)):=(Below.refl _ w).alloc (DR _) _
 refine wpIn_rangeFunc_ownG (F:=Fence.wide) rfl (by omega) (gf:=226) (lb:=#[.pointer (some ⟨Bs,0,none⟩)]) rfl trivial (enters_of Tryz.func226 (by kernel_rfl) rfl)
  (values_stops (ok:=fun b=>ok b/\b<w.heap.size) Bs w.heap.size _ (by omega) _ (by simp;omega) (by simp) ((za.refl w).alloc _ |>.cell U) (HI.out.bound.below I) (fun b hb _=>hb.2) M) belowK_t (belowK_b (by simp)) (Below.refl _ _) (fun _=>rfl)
  (fun pre W=>(∃v,Boxed W w.heap.size 23 v/\W.ownsRow w.heap.size 3 1 v pre.length (pre.map (Value.int .i64))/\True)/\Below w.heap.size w W)
  (fun _ _ _=>False)
  (OwnFrom.and (Own.from (holdsRow_own w.heap.size w.heap.size 23 3 1 (fun pre:List Int=>pre.length) (fun pre:List Int=>pre.map (Value.int .i64)) (fun pre v=>True)) _) (ownFrom_below (DR _) (by simp)))
  (fun _ _ _ _ _ hs _ _=>hs)
  ⟨⟨_,bO,World.ownsRow_nil _ _ _ _,trivial⟩,I⟩
  (fun x=>{ tmps:=#[.slice none 0 0,.func (.func 226) #[] #[.pointer (some ⟨Bs,0,none⟩)],.pointer (some ⟨w.heap.size,0,none⟩),undef,.slice none 0 0,.int .i64 x,.func (.func 226) #[] #[.pointer (some ⟨Bs,0,none⟩)],.int .i64 x,undef,undef,undef,undef,undef],defers:=[] }) ?assign ?body ?done ?stop
 case assign=>
  intro l x W K J
  gi_wp2
  exact J
 case body=>
  rintro lb pre x W ⟨⟨v,V,o,_⟩,G⟩ b4;have U:=V.cell
  gi_wp2_with (gi_at_builtin;refine wpListIn_append_own _ rfl _ _ 23 rfl w.heap.size 3 i0 (.int .i64 0) 1 8 Tryz.underlying23 hi a4 a5 a6 rfl (by decide) _ _ _ rfl (o.alloc _) ⟨W.heap.size,0,none⟩ 1 1 [.int .i64 x] rfl rfl (cell_one_new _ _ _) (by simp [Value.oneCell']) (by unfold maxLen;omega) (by omega) (by have:=G.size;simp;omega) ?_;intro v' w1 B E _;obtain ⟨g',cap',rfl⟩:=ownsRow_succ B;obtain ⟨O,a3,a2,a1,L⟩:=V.appended (by decide) o G.size (DR _) B E;have b1:=O.cell;have b2:=O.frozen)
  exact ⟨a1.from _,L,⟨_,a3,by simpa using a2,trivial⟩,G.trans L⟩
 case done=>
  rintro D ys W hD rfl ⟨⟨v,V,o,_⟩,G⟩ J;have U:=V.cell
  gi_wp2
  refine ⟨by simp,.inl ⟨_,_,rfl,run_takeDeferred J,?_⟩⟩;exact ⟨_,results_tmp rfl _ _ _,v,rfl,ownsRow_putObj o _ J rfl,G.trans (belowK_b (w:=w) (DR _) W D _ _ (by simp at hD;omega) J rfl rfl)⟩
 case stop=>
  rintro D c pre W _ _ h _;exact h.elim
end
section
open Go.RowKit
section
variable {P:Program} {ops:Array Oper} {Q:Exit->Act->World->Prop} {md:Region.Mode} {S:World->Prop}
def Cj (ops:Array Oper) (j:Nat):Option Tmp:=(ops[j]?).bind (·.dst)
def zX (ops:Array Oper) (v:Nat->Value):List Nat->Act->Act
 | [],a=>a
 | j :: js,a=>zX ops v js (a.put (Cj ops j) (v j))
def AM {α:Type} (f:Nat->α) (j:Nat) (x:α):Nat->α:=fun k=>if k=j then x else f k
theorem Cg {α:Type} (f:Nat->α) (j:Nat) (x:α):AM f j x j=x:=by simp [AM]
theorem AX {α:Type} (f:Nat->α) {j:Nat} (x:α) (h:k≠j):AM f j x k=f k:=by simp [AM,h]
theorem put_put (a:Act) (d:Option Tmp) (x y:Value):(a.put d x).put d y=a.put d y:=by
 cases d with
 | none=>rfl
 | some d=>simp [Act.put]
theorem put_comm (a:Act) {d d':Option Tmp} (x y:Value) (h:d=d'->d=none):(a.put d x).put d' y=(a.put d' y).put d x:=by
 cases d with
 | none=>rfl
 | some d=>
  cases d' with
  | none=>rfl
  | some d'=>
   have o:d≠d':=fun e=>by subst e;exact absurd (h rfl) (by simp)
   simp only [Act.put];rw [Array.setIfInBounds_comm _ _ o]
theorem putAll_put (v:Nat->Value) (d:Option Tmp) (x:Value):∀(js:List Nat) (a:Act),(∀k∈js,Cj ops k=d->d=none)->(zX ops v js a).put d x=zX ops v js (a.put d x)
 | [],_,_=>rfl
 | k :: js,a,h=>by
  simp only [zX];rw [putAll_put v d x js _ (fun k' o=>h k' (El _ o)),put_comm a _ _ (fun e=>by rw [e];exact h k (ED ..) e)]
theorem putAll_upd (v:Nat->Value) (j:Nat) (x:Value):∀(js:List Nat) (a:Act),j∉js->zX ops (AM v j x) js a=zX ops v js a
 | [],_,_=>rfl
 | k :: js,a,h=>by
  simp only [zX];rw [AX v x (fun e=>h (by simp [e])),putAll_upd v j x js _ (fun o=>h (El _ o))]
def Dist (ops:Array Oper) (js:List Nat):Prop:=∀j∈js,∀k∈js,j≠k->Cj ops j=Cj ops k->Cj ops k=none
theorem putAll_set (v:Nat->Value) (j:Nat) (x:Value):∀(js:List Nat) (a:Act),js.Nodup->Dist ops js->j∈js->(zX ops v js a).put (Cj ops j) x=zX ops (AM v j x) js a
 | [],_,_,_,h=>by cases h
 | k :: js,a,K,D,h=>by
  obtain ⟨E,B⟩:=List.nodup_cons.1 K;simp only [zX];by_cases e:j=k
  ·subst e;rw [Cg,putAll_upd v j x js _ E,putAll_put v _ x js _ (fun k' o he=>D k' (El _ o) j (ED ..) (fun e=>E (e ▸ o)) he),put_put]
  ·have J:j∈js:=by
    rcases EG.1 h with h | h
    ·exact absurd h e
    ·exact h
   rw [AX v x (fun h=>e h.symm)];exact putAll_set v j x js _ B (fun a G b I=>D a (El _ G) b (El _ I)) J
theorem put_self (a:Act) (d:Option Tmp):∃x,a.put d x=a:=by
 cases d with
 | none=>exact ⟨undef,rfl⟩
 | some d=>
  refine ⟨a.tmps.getD d undef,?_⟩;obtain ⟨t,ds⟩:=a;simp only [Act.put,Act.mk.injEq,and_true];apply Array.ext_getElem?;intro i;rw [Array.getElem?_setIfInBounds]
  split
  ·rename_i h
   subst h
   split
   ·rename_i h;simp [Array.getD,h]
   ·rename_i h;rw [Array.getElem?_eq_none (by omega)]
  ·rfl
theorem putAll_self (a:Act):∀(js:List Nat),js.Nodup->∃v,zX ops v js a=a
 | [],_=>⟨fun _=>undef,rfl⟩
 | j :: js,h=>by
  obtain ⟨o,B⟩:=List.nodup_cons.1 h;obtain ⟨v,D⟩:=putAll_self a js B;obtain ⟨x,E⟩:=put_self a (Cj ops j);refine ⟨AM v j x,?_⟩;simp only [zX];rw [Cg,putAll_upd v j x js _ o,E,D]
def regionB (md:Region.Mode) (ops:Array Oper) (js:List Nat):Bool:=
 ((List.range ops.size).all fun j=>match ops[j]? with | none=>false | some o=>o.after.toList.all fun e=>!Region.binds md e || decide (e.on<j)) &&
 decide js.Nodup && (js.all fun j=>decide (j<ops.size)) && (js.all fun j=>js.all fun k=>decide (j=k) || !(decide (Cj ops j=Cj ops k)) || decide (Cj ops k=none))
def leftB (ops:Array Oper) (listed:Array Bool) (js:List Nat):Bool:=decide (listed.size=ops.size) && (List.range listed.size).all fun k=>listed.getD k true || decide (k∈js)
def StepTo (ops:Array Oper) (S:World->Prop) (J:(Nat->Bool)->(Nat->Value)->World->Prop) (js:List Nat) (a0:Act) (j:Nat) (e:Nat->Bool) (v:Nat->Value) (K:Act->World->Prop):Prop:=
 ∀a' x w',(zX ops v js a0).put (Cj ops j) x=a'->S w'->J (AM e j true) (AM v j x) w'->K a' w'
theorem wpAnyH_inv {js:List Nat} {J:(Nat->Bool)->(Nat->Value)->World->Prop} (hB:regionB md ops js=true)
  (step:∀j∈js,∀e v w,J e v w->S w->e j=false->(∀o,ops[j]?=some o->∀d∈o.after,Region.binds md d=true->e d.on=true)->∀o,ops[j]?=some o->∀K:Act->World->Prop,Hid (StepTo ops S J js a0 j e v K)->
   if Region.wanted o (yielded ops (zX ops v js a0).tmps)=true then Oper.wp P o (zX ops v js a0) w K Q else K ((zX ops v js a0).put o.dst undef) w)
  (fin:∀v w,J (fun _=>true) v w->S w->Q .normal (zX ops v js a0) w):
  ∀(fuel:Nat) (listed:Array Bool) (v:Nat->Value) (w:World),listed.size=ops.size->(∀k,listed.getD k true=false->k∈js)->(js.filter fun k=>!listed.getD k true).length<=fuel->S w->J (fun k=>listed.getD k true) v w->
   wpAnyH P md ops Q S fuel listed (zX ops v js a0) w:=by
 unfold regionB at hB;simp only [Ed,EU,Eb,ES,Bool.not_eq_true',Eo] at hB;obtain ⟨⟨⟨h1,h2⟩,h3⟩,h4⟩:=hB
 have hD:Dist ops js:=fun j hj k L b5 he=>by
  rcases h4 j hj k L with (h | h) | h
  ·exact absurd h b5
  ·exact absurd he h
  ·exact h
 have V:∀listed:Array Bool,(∀k,listed.getD k true=true)->(fun k=>listed.getD k true)=fun _=>true:=fun listed h=>funext h
 have O:∀listed:Array Bool,listed.size=ops.size->(∀k,listed.getD k true=false->k∈js)->Region.ready md ops listed=[]->∀k,listed.getD k true=true:=by
  intro listed U B hr
  have L:∀n k,k<n->listed.getD k true=true:=by
   intro n
   induction n with
   | zero=>intro k h;omega
   | succ n ih=>
    intro k d6
    cases hv:listed.getD k true with
    | true=>rfl
    | false=>
     exfalso
     have G:=h3 k (B k hv)
     have a1:k∈Region.ready md ops listed:=mem_ready.2 ⟨hv,ops[k],Array.getElem?_eq_getElem G,fun e he hb=>by
      have:=h1 k (EQ.2 G);rw [Array.getElem?_eq_getElem G] at this;have h5:=(EU.1 this) e (by simpa using he);simp only [ES,Bool.not_eq_true',Eb] at h5
      have h6:e.on<k:=by
       rcases h5 with h5 | h5
       ·rw [hb] at h5;cases h5
       ·exact h5
      have h7:=ih e.on (by omega);have h8:e.on<listed.size:=by omega
      simp only [Array.getD,h8,dif_pos] at h7⊢;exact h7⟩
     rw [hr] at a1;cases a1
  exact fun k=>L (k+1) k (by omega)
 intro fuel
 induction fuel with
 | zero=>
  intro listed v w U B hc hS hJ
  have hf:∀k,listed.getD k true=true:=fun k=>by
   cases hv:listed.getD k true with
   | true=>rfl
   | false=>
    exfalso
    have:k∈js.filter fun k=>!listed.getD k true:=EO.2 ⟨B k hv,by rw [hv];rfl⟩
    rw [Ei (Nat.le_zero.1 hc)] at this;cases this
  refine ⟨?_,fin v w (by rw [<-V listed hf];exact hJ) hS⟩;apply List.eq_nil_iff_forall_not_mem.2;intro j hj;have:=(mem_ready.1 hj).1;rw [hf j] at this;cases this
 | succ fuel ih=>
  intro listed v w U B hc hS hJ;refine ⟨fun hr=>fin v w (by rw [<-V listed (O listed U B hr)];exact hJ) hS,fun i hi=>?_⟩;obtain ⟨a3,o,ho,a2⟩:=mem_ready.1 hi;have E:=B i a3;refine wpOp_step ho fun K' hK=>?_
  have G:i<listed.size:=by have:=h3 i E;omega
  refine step i E (fun k=>listed.getD k true) v w hJ hS a3 (fun o' M d hd hb=>?_) o ho K' fun a' x w' ha a6 a5=>?_
  ·rw [ho] at M;injection M with M;subst M;have h9:=a2 d hd hb;by_cases a4:d.on<listed.size
   ·simp only [Array.getD,a4,dif_pos] at h9⊢;exact h9
   ·simp only [Array.getD,a4,dif_neg,not_false_eq_true] at h9;cases h9
  ·refine hK _ _ ⟨a6,?_⟩
   have I:AM (fun k=>listed.getD k true) i true=fun k=>(listed.setIfInBounds i true).getD k true:=by
    funext k;by_cases L:k=i
    ·subst L;rw [Cg];simp [Array.getD,G]
    ·rw [AX _ _ L];simp only [Array.getD,Array.size_setIfInBounds]
     split
     ·rename_i h
      show listed[k]=(listed.setIfInBounds i true)[k]'(by simpa using h);rw [Array.getElem_setIfInBounds,if_neg (Ne.symm L)]
     ·rfl
   rw [I] at a5;rw [<-ha,putAll_set v i x js a0 h2 hD E];refine ih (listed.setIfInBounds i true) (AM v i x) w' (by simpa using U) (fun k L=>?_) ?_ a6 a5
   ·by_cases D:k=i
    ·rw [D];exact E
    ·have:=congrFun I k;rw [AX _ _ D] at this;exact B k (this.trans L)
   ·have b3:(js.filter fun k=>!(listed.setIfInBounds i true).getD k true)=(js.filter fun k=>!listed.getD k true).erase i:=by
     rw [List.Nodup.erase_eq_filter (h2.filter _),List.filter_filter];apply List.filter_congr;intro k L;have:=congrFun I k;rw [<-this];by_cases D:k=i
     ·subst D;simp [Cg]
     ·rw [AX _ _ D];simp [D]
    rw [b3,List.length_erase_of_mem (EO.2 ⟨E,by show (!listed.getD i true)=true;rw [a3];rfl⟩)];omega
theorem wpAnyH_by_inv (js:List Nat) (J:(Nat->Bool)->(Nat->Value)->World->Prop) {w:World} (D:regionB md ops js=true) (hL:leftB ops listed js=true) (hf:js.length<=fuel) (I:S w)
  (init:∀e v,(∀j∈js,e j=false)->J e v w)
  (E:(js.all fun j=>!listed.getD j true)=true)
  (step:∀j∈js,∀e v w,J e v w->S w->e j=false->(∀o,ops[j]?=some o->∀d∈o.after,Region.binds md d=true->e d.on=true)->∀o,ops[j]?=some o->∀K:Act->World->Prop,Hid (StepTo ops S J js a0 j e v K)->
   if Region.wanted o (yielded ops (zX ops v js a0).tmps)=true then Oper.wp P o (zX ops v js a0) w K Q else K ((zX ops v js a0).put o.dst undef) w)
  (fin:∀v w,J (fun _=>true) v w->S w->Q .normal (zX ops v js a0) w):wpAnyH P md ops Q S fuel listed a0 w:=by
 unfold leftB at hL;simp only [Ed,EU,Eb,ES] at hL
 have M:js.Nodup:=by
  unfold regionB at D;simp only [Ed,Eb] at D;exact D.1.1.2
 obtain ⟨v,O⟩:=putAll_self (ops:=ops) a0 js M
 have h:=wpAnyH_inv D step fin fuel listed v w hL.1 (fun k G=>by
  by_cases B:k<listed.size
  ·rcases hL.2 k (EQ.2 B) with h | h
   ·rw [G] at h;cases h
   ·exact h
  ·simp [Array.getD,B] at G) (DT (Eu _ _) hf) I (init _ _ (fun j L=>by
   have:=EU.1 E j L;simpa using this))
 rwa [O] at h
end
section
variable {P:Program} {ops:Array Oper} {Q:Exit->Act->World->Prop} {md:Region.Mode} {S:World->Prop}
def StepToF (F:(Nat->Value)->Act) (d:Option Tmp) (S:World->Prop) (J:(Nat->Bool)->(Nat->Value)->World->Prop) (j:Nat) (e:Nat->Bool) (v:Nat->Value) (K:Act->World->Prop):Prop:=
 ∀a' x w',(F v).put d x=a'->S w'->J (AM e j true) (AM v j x) w'->K a' w'
def zn (P:Program) (ops:Array Oper) (Q:Exit->Act->World->Prop) (md:Region.Mode) (F:(Nat->Value)->Act) (S:World->Prop) (J:(Nat->Bool)->(Nat->Value)->World->Prop) (js:List Nat):Prop:=
 ∀j∈js,∀e v w,J e v w->S w->e j=false->∀o,ops[j]?=some o->(∀d∈o.after,Region.binds md d=true->e d.on=true)->∀K:Act->World->Prop,Hid (StepToF F o.dst S J j e v K)->
   if Region.wanted o (yielded ops (F v).tmps)=true then Oper.wp P o (F v) w K Q else K ((F v).put o.dst undef) w
theorem zn.nil {F:(Nat->Value)->Act} {J:(Nat->Bool)->(Nat->Value)->World->Prop}:zn P ops Q md F S J []:=fun _ h=>by cases h
theorem zn.cons {F:(Nat->Value)->Act} {J:(Nat->Bool)->(Nat->Value)->World->Prop} {j:Nat} {js:List Nat} {o:Oper} (L:ops[j]?=some o)
  (h:∀e v w (K:Act->World->Prop),J e v w->S w->e j=false->(∀d∈o.after,Region.binds md d=true->e d.on=true)->Hid (StepToF F o.dst S J j e v K)->
   if Region.wanted o (yielded ops (F v).tmps)=true then Oper.wp P o (F v) w K Q else K ((F v).put o.dst undef) w)
  (M:zn P ops Q md F S J js):zn P ops Q md F S J (j :: js):=by
 intro k hk;rcases EG.1 hk with rfl | hk
 ·intro e v w D G he o' B I K E;rw [L] at B;injection B with B;subst B;exact h e v w K D G he I E
 ·exact M k hk
theorem BD (js:List Nat) (J:(Nat->Bool)->(Nat->Value)->World->Prop) {F:(Nat->Value)->Act} {w:World} (O:regionB md ops js=true) (hL:leftB ops listed js=true) (hf:js.length<=fuel) (B:S w)
  (hF:∀v,zX ops v js a0=F v) (init:∀e v,(∀j∈js,e j=false)->J e v w) (M:(js.all fun j=>!listed.getD j true)=true) (step:zn P ops Q md F S J js)
  (fin:∀v w,J (fun _=>true) v w->S w->Q .normal (F v) w):wpAnyH P md ops Q S fuel listed a0 w:=by
 refine wpAnyH_by_inv js J O hL hf B init M (fun j hj e v w E B he hd o L K U=>?_) (fun v w E B=>by rw [hF v];exact fin v w E B);have D:Cj ops j=o.dst:=by unfold Cj;rw [L];rfl
 have h:=step j hj e v w E B he o L (hd o L) K (fun a' x w' V I G=>U.out a' x w' (by rw [hF v,D];exact V) I G);rw [hF v];exact h
end
def GivesB {α:Type} (n:Nat) (P:Program) (g:Nat) (lb:Array Value) (encs:α->Array Value) (G:Nat->α->World->Prop) (N:Nat) (w:World):Prop:=
 ∀(l:Nat) (J:Nat->World->Prop) (Jx:World->Prop) (W:World),za w W->w.heap.size<=l->l<W.heap.size->(∀k A B,J k A->Below W.heap.size A B->J k B)->(∀A B,Jx A->Below W.heap.size A B->Jx B)->
  (∀k x W1,k<N->J k W1->G k x W1->YieldAt Fence.wide (n - 1) P l (encs x) W1 fun e W'=>(e=.returned (.bool true)/\J (k+1) W'/\W1.grownBy W' (some l))\/(e=.returned (.bool false)/\Jx W'))->
  J 0 W->
  CallsIn Fence.wide n P g (#[.func (.yield l) #[] #[]]++lb) W fun e W'=>(∃v,e=.returned v)/\(J N W'\/Jx W')
theorem AV {B l:Nat} (o:Obj) (h:B<=l) (D:l<W.heap.size):Below B W (W.putObj l o):=
 (Below.refl B W).grown (grownBy_putObj' W l o) (by omega) (fun k e=>by cases e;exact h)
end
end Go.Proofs.YtjomnbdjajjgfaaGreatDoor
