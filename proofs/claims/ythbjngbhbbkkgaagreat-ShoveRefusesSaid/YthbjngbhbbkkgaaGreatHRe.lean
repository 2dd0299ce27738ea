import Derived.Test.YthbjngbhbbkkgaaGreatHRd
import Derived.Lib.SliceRun
import Derived.RangeFuncNested
import Derived.RangeFuncBound
import Derived.RangeFuncCalls
import Derived.RangeFuncLeaves
import Derived.RangeFuncBox
import Derived.Shelf.Abstract
import Derived.Maps.AppendAt
import Derived.RangeFuncWrites
import Derived.Shelf.RegionOpen
import Derived.OwnWalkIn
import Derived.TacticsInMore
import Derived.LoopNIn
import Derived.LoopIn
set_option linter.unusedVariables false
set_option linter.unusedSimpArgs false
set_option maxRecDepth 100000
set_option maxHeartbeats 16000000
namespace Go.Proofs.YthbjngbhbbkkgaaGreat
variable {cs:Array Value} {l:List Int} {k n:Nat}
section
open Go.RowKit
attribute [local go_sem ↓] Go.wp_at_zero Go.wp_at_succ
structure zC (m:MZ):Prop where
 dim:Ex m
 fl:m.free.length=m.tasks.length
 fn:∀f∈m.free,(f.length:Int)=m.n
 tk:m.tasks.length<=6
 tn:∀t∈m.tasks,∀x,x∈t.1\/x∈t.2->0<=x/\x<m.n
theorem zC.of {m:MZ} (h:AO m=0):zC m:=by
 unfold AO at h
 split at h
 ·cases h
 ·rename_i h1
  have z:[m.w,m.h,m.l].any side=false:=by simpa using h1
  obtain ⟨⟨a1,a2⟩,⟨b1,b2⟩,c1,c2⟩:=sides z
  split at h
  ·cases h
  ·rename_i h2
   split at h
   ·cases h
   ·rename_i h3
    split at h
    ·cases h
    ·rename_i I
     have o:m.n<=300/\m.tasks.length<=6:=by omega
     have B:m.free.length=m.tasks.length:=by
      by_cases h:m.free.length=m.tasks.length
      ·exact h
      ·exact absurd (.inl h) h3
     have D:(m.up.length:Int)=m.n:=by
      by_cases h:(m.up.length:Int)=m.n
      ·exact h
      ·exact absurd (.inr (.inl h)) h3
     have E:∀f∈m.free,(f.length:Int)=m.n:=by
      intro f J;by_cases h:(f.length:Int)=m.n
      ·exact h
      ·exact absurd (.inr (.inr (FM.2 ⟨f,J,by simpa using h⟩))) h3
     refine ⟨⟨a1,a2,b1,b2,c1,c2,o.1,D⟩,B,E,o.2,fun t L x hx=>?_⟩;by_cases G:zY m.n x=true
     ·exfalso
      apply I;refine FM.2 ⟨t,L,?_⟩;rw [FK];rcases hx with hx | hx
      ·exact .inl (FM.2 ⟨x,hx,G⟩)
      ·exact .inr (FM.2 ⟨x,hx,G⟩)
     ·simp [zY] at G;omega
theorem zC.n1 {m:MZ} (g:zC m):1<=m.w*m.h*m.l:=by have:=g.dim.layer;omega
def AR (m:MZ) (node:Int):List Int:=if AO m=0/\0<=node/\node<m.n then zl m node else []
open Classical in
noncomputable def reachO (m:MZ) (t:Int) (from_ used:List Int):List Int:=if AO m=0/\0<=t/\t<m.tasks.length then Cg m t.toNat from_ used else []
theorem Et {ok:Nat->Prop} {v:Value} {m:MZ} (node:Int) (w:World) (hm:zw w ok v m) (hl:Lens m):
  Calls Tryz.prog 26 #[v,.int .i64 node] w fun e w'=>∃v',e=.returned v'/\Mk w w' v' (AR m node):=by
 have M:=hm;obtain ⟨vfr,vup,vts,rfl,V,_,a0⟩:=hm;obtain ⟨vst,⟨At,ct,rfl,a4,_⟩,_⟩:=a0;have I:=zh M;clear M;have HL:=zh hl;obtain ⟨l1,l2,l3,l4⟩:=hl;clear l4 V
 go_enter Tryz.func26,Tryz.ntmps26
 go_wp2_with fail
 generalize D:w.alloc (.cells #[.int .i64 m.w,.int .i64 m.h,.int .i64 m.l,vfr,vup,.slice At m.tasks.length ct] 32)=w1;have o:zb w w1:=by rw [<-D];exact (zb.refl w).alloc _
 have L:zk w1 w.heap.size 32 #[.int .i64 m.w,.int .i64 m.h,.int .i64 m.l,vfr,vup,.slice At m.tasks.length ct]:=by rw [<-D];exact Fu _ _
 clear D;obtain ⟨m0,m1,m2,m3,m4,m5⟩:=zA L;have r0:=zb.rule m0;have r1:=zb.rule m1;have r2:=zb.rule m2;have r3:=zb.rule m3;have r4:=zb.rule m4;have r5:=zb.rule m5;clear m0 m1 m2 m3 m4 m5 L;have ra:=zS w1;have hx:zb w1 w1:=zb.refl w1
 go_wp2_with fail
 refine (Bv w1 (I.out.below o) HL.out).mono ?_;rintro e wA ⟨rfl,T⟩;have E:zb w1 wA:=T;clear hx;by_cases B:AO m=0
 case neg=>
  have hd:(AO m != 0)=true:=by simpa using B
  have Q:=zh B;clear B;go_wp2;go_ret;exact ⟨_,rfl,(o.trans E).mono_mk (Mk.cast (Mk.nil _) (by unfold AR;rw [if_neg (fun h=>Q.out h.1)]))⟩
 have hd:(AO m != 0)=false:=by simpa using B
 have G:=zh (zC.of B);have Q:=zh B;clear B;obtain ⟨a6,a7⟩:=G.out.dim.layer;have a8:=G.out.dim.n1;by_cases h0:0<=node
 case neg=>
  go_wp2;go_ret;exact ⟨_,rfl,(o.trans E).mono_mk (Mk.cast (Mk.nil _) (by unfold AR;rw [if_neg (fun h=>by have:=h.2.1;omega)]))⟩
 go_wp2_with fail
 refine (AC _ _ _ _ _ _ _ (by omega) (by omega)).mono ?_;rintro e wB ⟨rfl,U⟩;have z:zb w1 wB:=E.trans U;by_cases h1:node<m.w*m.h*m.l
 case neg=>
  go_wp2;go_ret;exact ⟨_,rfl,(o.trans z).mono_mk (Mk.cast (Mk.nil _) (by unfold AR;rw [if_neg (fun h=>by have:=h.2.2;unfold MZ.n at this;omega)]))⟩
 go_wp2_with fail
 refine (Du m node _ (I.out.below (o.trans z)) G.out.dim h0 h1).mono ?_;rintro e wC ⟨v',rfl,J,O⟩;have HM:Hid (Mk wB wC v' (zl m node)):=⟨O,J⟩;clear O;have b0:zb w1 wC:=z.trans J
 go_wp2_with fail
 go_ret;exact ⟨_,rfl,(o.trans z).mono_mk (HM.out.cast (by unfold AR;rw [if_pos ⟨Q.out,h0,h1⟩]))⟩
theorem Er {ok:Nat->Prop} {v:Value} {m:MZ} (node:Int) (w:World) (hm:zw w ok v m) (hl:Lens m):
  Calls Tryz.prog 53 #[v,.int .i64 node] w fun e w'=>∃v',e=.returned v'/\Mk w w' v' (AR m node):=by
 have M:=hm;obtain ⟨vfr,vup,vts,rfl,V,_,a0⟩:=hm;obtain ⟨vst,⟨At,ct,rfl,a4,_⟩,_⟩:=a0;have I:=zh M;clear M;have HL:=zh hl;obtain ⟨l1,l2,l3,l4⟩:=hl;clear l4 V
 go_enter Tryz.func53,Tryz.ntmps53
 go_wp2_with fail
 generalize D:w.alloc (.cells #[.int .i64 m.w,.int .i64 m.h,.int .i64 m.l,vfr,vup,.slice At m.tasks.length ct] 32)=w1;have o:zb w w1:=by rw [<-D];exact (zb.refl w).alloc _
 have L:zk w1 w.heap.size 32 #[.int .i64 m.w,.int .i64 m.h,.int .i64 m.l,vfr,vup,.slice At m.tasks.length ct]:=by rw [<-D];exact Fu _ _
 clear D;obtain ⟨m0,m1,m2,m3,m4,m5⟩:=zA L;have r0:=zb.rule m0;have r1:=zb.rule m1;have r2:=zb.rule m2;have r3:=zb.rule m3;have r4:=zb.rule m4;have r5:=zb.rule m5;clear m0 m1 m2 m3 m4 m5 L;have ra:=zS w1;have hx:zb w1 w1:=zb.refl w1
 go_wp2_with fail
 refine (Db w1 (I.out.below o) HL.out).mono ?_;rintro e wA ⟨rfl,T⟩;have E:zb w1 wA:=T;clear hx;by_cases B:AO m=0
 case neg=>
  have hd:(AO m != 0)=true:=by simpa using B
  have Q:=zh B;clear B;go_wp2;go_ret;exact ⟨_,rfl,(o.trans E).mono_mk (Mk.cast (Mk.nil _) (by unfold AR;rw [if_neg (fun h=>Q.out h.1)]))⟩
 have hd:(AO m != 0)=false:=by simpa using B
 have G:=zh (zC.of B);have Q:=zh B;clear B;obtain ⟨a6,a7⟩:=G.out.dim.layer;have a8:=G.out.dim.n1;by_cases h0:0<=node
 case neg=>
  go_wp2;go_ret;exact ⟨_,rfl,(o.trans E).mono_mk (Mk.cast (Mk.nil _) (by unfold AR;rw [if_neg (fun h=>by have:=h.2.1;omega)]))⟩
 go_wp2_with fail
 refine (AP _ _ _ _ _ _ _ (by omega) (by omega)).mono ?_;rintro e wB ⟨rfl,U⟩;have z:zb w1 wB:=E.trans U;by_cases h1:node<m.w*m.h*m.l
 case neg=>
  go_wp2;go_ret;exact ⟨_,rfl,(o.trans z).mono_mk (Mk.cast (Mk.nil _) (by unfold AR;rw [if_neg (fun h=>by have:=h.2.2;unfold MZ.n at this;omega)]))⟩
 go_wp2_with fail
 refine (Es m node _ (I.out.below (o.trans z)) G.out.dim h0 h1).mono ?_;rintro e wC ⟨v',rfl,J,O⟩;have HM:Hid (Mk wB wC v' (zl m node)):=⟨O,J⟩;clear O;have b0:zb w1 wC:=z.trans J
 go_wp2_with fail
 go_ret;exact ⟨_,rfl,(o.trans z).mono_mk (HM.out.cast (by unfold AR;rw [if_pos ⟨Q.out,h0,h1⟩]))⟩
theorem rReach_calls {ok ok1 ok2:Nat->Prop} {v vf vu:Value} {m:MZ} {from_ used:List Int} (t:Int) (w:World) (hm:zw w ok v m) (hl:Lens m) (hf:zj w ok1 vf from_) (c6:from_.length<=20000000000000) (hu:zj w ok2 vu used) (c8:used.length<=20000000000000):
  Calls Tryz.prog 25 #[v,.int .i64 t,vf,vu] w fun e w'=>∃v',e=.returned v'/\Mk w w' v' (reachO m t from_ used):=by
 have a9:=hm;obtain ⟨vfr,vup,vts,rfl,c4,_,d4⟩:=hm;obtain ⟨vst,⟨At,ct,rfl,f2,_⟩,_⟩:=d4;have a1:=zh a9;clear a9;have HL:=zh hl;obtain ⟨l1,l2,l3,l4⟩:=hl;clear l4 c4;have HF:=zh hf;clear hf;have HU:=zh hu;clear hu
 go_enter Tryz.func25,Tryz.ntmps25
 go_wp2_with fail
 generalize a0:w.alloc (.cells #[.int .i64 m.w,.int .i64 m.h,.int .i64 m.l,vfr,vup,.slice At m.tasks.length ct] 32)=w1;have z:zb w w1:=by rw [<-a0];exact (zb.refl w).alloc _
 have a5:zk w1 w.heap.size 32 #[.int .i64 m.w,.int .i64 m.h,.int .i64 m.l,vfr,vup,.slice At m.tasks.length ct]:=by rw [<-a0];exact Fu _ _
 clear a0;obtain ⟨m0,m1,m2,m3,m4,m5⟩:=zA a5;have r0:=zb.rule m0;have r1:=zb.rule m1;have r2:=zb.rule m2;have r3:=zb.rule m3;have r4:=zb.rule m4;have r5:=zb.rule m5;clear m0 m1 m2 m3 m4 m5 a5;have ra:=zS w1;have hx:zb w1 w1:=zb.refl w1
 go_wp2_with fail
 refine (Bv w1 (a1.out.below z) HL.out).mono ?_;rintro e wA ⟨rfl,b9⟩;have o:zb w1 wA:=b9;clear hx;by_cases V:AO m=0
 case neg=>
  have hd:(AO m != 0)=true:=by simpa using V
  have HC:=zh V;clear V;go_wp2;go_ret;exact ⟨_,rfl,(z.trans o).mono_mk (Mk.cast (Mk.nil _) (by unfold reachO;rw [if_neg (fun h=>HC.out h.1)]))⟩
 have hd:(AO m != 0)=false:=by simpa using V
 have G:=zh (zC.of V);have HC:=zh V;clear V;obtain ⟨f5,f6⟩:=G.out.dim.layer;have f7:=G.out.dim.n1;by_cases h0:0<=t
 case neg=>
  go_wp2;go_ret;exact ⟨_,rfl,(z.trans o).mono_mk (Mk.cast (Mk.nil _) (by unfold reachO;rw [if_neg (fun h=>by have:=h.2.1;omega)]))⟩
 by_cases h1:t<m.tasks.length
 case neg=>
  have e9:(m.tasks.length:Int)<=t:=by omega
  go_wp2;go_ret;exact ⟨_,rfl,(z.trans o).mono_mk (Mk.cast (Mk.nil _) (by unfold reachO;rw [if_neg (fun h=>by have:=h.2.2;omega)]))⟩
 obtain ⟨tn,rfl⟩:∃tn:Nat,t=tn:=⟨t.toNat,by omega⟩;have c9:tn<m.free.length:=by have:=G.out.fl;omega
 have e3:tn<m.tasks.length:=by omega
 go_wp2_with fail
 have f9:=zh o
 go_region_held3 (fun w'=>zb w1 w'/\zb wA w')
  (first | (exact DJ o) | (exact held_ext (DJ o) D) | (exact held_ext (held_ext (DJ o) D) a3))
  (first | ((go_at_call 60;refine (setOf_calls _ (HU.out.keep (zW.of_below (z.trans o.drew))) c8).mono ?_;rintro e w8 ⟨s8,rfl,D,b1,I⟩)) | ((go_at_call 59;refine (reach_calls tn _ (a1.out.keep (zW.of_below (z.trans (o.drew.trans D)))) G.out.dim c9 G.out.fn (HF.out.keep (zW.of_below (z.trans (o.drew.trans D)))) c6 b1).mono ?_;rintro e w9 ⟨s9,rfl,a3,b2,O⟩)))
 rename_i hS
 have d5:=hS.1;have L:=zh b2;clear b2;have hE:=zh (reachL_of (used:=used) (fun x=>(O x).trans ⟨fun h=>h.congr (fun _=>Iff.rfl) I,fun h=>h.congr (fun _=>Iff.rfl) (fun y=>(I y).symm)⟩));clear O;have a6:w8.heap.size+1<w9.heap.size:=zd L.out;obtain ⟨gs,E⟩:∃gs,gs=w8.heap.size+1:=⟨_,rfl⟩;rw [<-E] at L a6;have HG:=zh E;clear D b1 I hS
 go_wp2_with fail
 rw [<-HG.out];clear E a3;refine (AC _ _ _ _ _ _ _ (by omega) (by omega)).mono ?_;rintro e wB ⟨rfl,U⟩;have d6:zb w1 wB:=d5.trans U;have b6:=zh (L.out.below U);clear L a6 U;obtain ⟨N,hN⟩:∃N:Nat,m.w*m.h*m.l=(N:Int):=⟨(m.w*m.h*m.l).toNat,by omega⟩;have HN:=zh hN;clear hN;have f1:N<=300:=by have h:=HN.out;have:=G.out.dim.n1;omega
 have a2:=zh (Mk.nil wB);rw [HN.out]
 go_wp2_with fail
 go_loopw [9,34] (fun v i wr=>∃k:Nat,k<=N/\i=.int .i64 (k:Nat)/\Hid (Mk wB wr v (((List.range k).map Int.ofNat).filter (fun x=>decide (x∈s9))))) (fun _ i _=>N - (intOf i).toNat)
 case atStart=>exact ⟨0,by omega,rfl,a2⟩
 clear a2
 case round=>
  obtain ⟨j,hj,rfl,T⟩:=hrel;by_cases f4:j<N
  ·have J:((List.range (j+1)).map Int.ofNat).filter (fun x=>decide (x∈s9))=((List.range j).map Int.ofNat).filter (fun x=>decide (x∈s9))++[(j:Int)].filter (fun x=>decide (x∈s9)):=by
    rw [List.range_succ,Fz,Fv];rfl
   have HS:=zh J;clear J;have M:=b6.out.below T.out.ext;by_cases B:(j:Int)∈s9
   ·have c7:=look_t M B;have Q:=zh B;clear B;have a7:(((List.range j).map Int.ofNat).filter (fun x=>decide (x∈s9))).length<=j:=EI (Fi _ _) (by simp);obtain ⟨lj,a8⟩:=zad (((List.range j).map Int.ofNat).filter (fun x=>decide (x∈s9)));rw [<-a8] at T a7 HS;clear a8;have g0:=T.out.ext.size
    go_wp2_with (at_builtin;refine AQ rfl _ _ rfl _ lj (j:Int) wB.heap.size wr.heap.size 1 _ rfl rfl (T.out.own.alloc _) ?d1 ?d2 ?d3 ?_)
    (try case d1=>exact zr _ _ _ (by simp))
    case d2=>(first | (simp;done) | (simp;omega) | omega)
    case d3=>omega
    intro v' wb b0 a4 c0;have b7:=zh ((T.out.alloc _).app b0 a4);clear b0 a4 c0;go_wp2;go_roundw
    case rel=>exact ⟨j+1,by omega,by go_num,by rw [HS.out,FB (by simpa using Q.out)];exact b7⟩
    case measure=>simp [intOf];omega
   ·have c7:=look_f M B;have Q:=zh B;clear B;go_wp2;go_roundw
    case rel=>exact ⟨j+1,by omega,by go_num,by rw [HS.out,Fp (by simpa using Q.out),List.filter_nil,List.append_nil];exact T⟩
    case measure=>simp [intOf];omega
  ·have c5:j=N:=by omega
   subst c5
   go_wp2_with fail
   go_ret;refine ⟨_,rfl,(z.trans d6).mono_mk (T.out.cast ?_)⟩;have b8:m.n.toNat=j:=by have:m.n=(j:Int):=HN.out;omega
   unfold reachO;rw [if_pos ⟨HC.out,by omega,by omega⟩,Fy,<-hE.out,b8]
def stCells (m:MZ) (f u t vc vp:Value) (gu:Nat):Array Value:=#[.int .i64 m.w,.int .i64 m.h,.int .i64 m.l,f,u,t,vc,vp,.map (some gu)]
structure BK (w:World) (ok:Nat->Prop) (g:Nat) (m:MZ) (ch:List Int) (ps:List (List Int)) (us:List Int) (f u t vc vp:Value) (gu:Nat):Prop where
 blk:zk w g 100 (stCells m f u t vc vp gu)
 okg:ok g
 maze:zw w ok (.agg #[.int .i64 m.w,.int .i64 m.h,.int .i64 m.l,f,u,t]) m
 ch:zj w ok vc ch
 ps:zv w ok vp ps
 oku:ok gu
 us:zF w gu us
def Dk (w:World) (ok:Nat->Prop) (v:Value) (m:MZ) (ch:List Int) (ps:List (List Int)) (us:List Int):Prop:=
 ∃g f u t vc vp gu,v=.pointer (some ⟨g,0,none⟩)/\BK w ok g m ch ps us f u t vc vp gu
section
variable {w w':World} {ok ok':Nat->Prop} {v f u t vc vp:Value} {m:MZ} {ch us:List Int} {ps:List (List Int)} {g gu:Nat}
theorem BK.keep (h:BK w ok g m ch ps us f u t vc vp gu) (o:zW ok w w'):BK w' ok g m ch ps us f u t vc vp gu:=
 ⟨(o g h.okg (zd h.blk)).trans h.blk,h.okg,h.maze.keep o,h.ch.keep o,h.ps.keep o,h.oku,h.us.keep o h.oku⟩
theorem BK.weaken (h:BK w ok g m ch ps us f u t vc vp gu) (o:∀b,ok b->ok' b):BK w ok' g m ch ps us f u t vc vp gu:=
 ⟨h.blk,o _ h.okg,h.maze.weaken o,h.ch.weaken o,h.ps.weaken o,o _ h.oku,h.us⟩
theorem Dk.keep (h:Dk w ok v m ch ps us) (o:zW ok w w'):Dk w' ok v m ch ps us:=by
 obtain ⟨g,f,u,t,vc,vp,gu,e,h⟩:=h;exact ⟨g,f,u,t,vc,vp,gu,e,h.keep o⟩
theorem Dk.weaken (h:Dk w ok v m ch ps us) (o:∀b,ok b->ok' b):Dk w ok' v m ch ps us:=by
 obtain ⟨g,f,u,t,vc,vp,gu,e,h⟩:=h;exact ⟨g,f,u,t,vc,vp,gu,e,h.weaken o⟩
theorem Dk.below (h:Dk w ok v m ch ps us) (o:Below w.heap.size w w'):Dk w' ok v m ch ps us:=h.keep (zW.of_below o)
theorem BK.ext (h:BK w ok g m ch ps us f u t vc vp gu) (o:zb w w'):BK w' ok g m ch ps us f u t vc vp gu:=h.keep (zW.of_below o)
theorem BK.rules (h:BK w ok g m ch ps us f u t vc vp gu):
  (∀W,zb w W->W.cell? ⟨g,0,none⟩=some (.int .i64 m.w))/\(∀W,zb w W->W.cell? ⟨g,1,none⟩=some (.int .i64 m.h))/\(∀W,zb w W->W.cell? ⟨g,2,none⟩=some (.int .i64 m.l))/\
  (∀W,zb w W->W.cell? ⟨g,3,none⟩=some f)/\(∀W,zb w W->W.cell? ⟨g,4,none⟩=some u)/\(∀W,zb w W->W.cell? ⟨g,5,none⟩=some t)/\
  (∀W,zb w W->W.cell? ⟨g,6,none⟩=some vc)/\(∀W,zb w W->W.cell? ⟨g,7,none⟩=some vp)/\(∀W,zb w W->W.cell? ⟨g,8,none⟩=some (.map (some gu))):=by
 have z:=h.blk;unfold zk stCells at z
 have o:∀k x,(#[Value.int .i64 m.w,.int .i64 m.h,.int .i64 m.l,f,u,t,vc,vp,.map (some gu)]:Array Value)[k]?=some x->w.cell? ⟨g,k,none⟩=some x:=by
  intro k x B;unfold World.cell?;simp only [z];exact B
 exact ⟨zb.rule (o 0 _ rfl),zb.rule (o 1 _ rfl),zb.rule (o 2 _ rfl),zb.rule (o 3 _ rfl),zb.rule (o 4 _ rfl),zb.rule (o 5 _ rfl),zb.rule (o 6 _ rfl),zb.rule (o 7 _ rfl),zb.rule (o 8 _ rfl)⟩
end
structure SOk (m:MZ) (ch:List Int) (ps:List (List Int)):Prop where
 good:zC m
 lens:Lens m
 pl:ps.length<=m.tasks.length
 pn:0<m.tasks.length->0<ps.length
 pp:∀p∈ps,p.length<=1000
 pr:∀p∈ps,∀x∈p,0<=x/\x<m.n
 cl:ch.length<=1000
def finB (m:MZ) (ps:List (List Int)):Bool:=
 match (ps.getD (ps.length - 1) []).getLast? with
 | none=>false
 | some x=>decide (x∈(m.tasks.getD (ps.length - 1) ([],[])).2)
def cmpB (m:MZ) (ps:List (List Int)):Bool:=decide (m.tasks.length=0) || (decide (ps.length=m.tasks.length) && finB m ps)
theorem Ds {w:World}:zb w w.drew:=(zb.refl w).drew
theorem Bh {ok:Nat->Prop} {m:MZ} {ch us:List Int} {ps:List (List Int)} {g gu:Nat} {f u t vc vp:Value} (w:World) (h:BK w ok g m ch ps us f u t vc vp gu) (z:ps.length<=20000000000000):
  Calls Tryz.prog 103 #[.pointer (some ⟨g,0,none⟩)] w fun e w'=>e=.returned (.int .i64 ((ps.length:Int) - 1))/\w=w':=by
 obtain ⟨r0,r1,r2,r3,r4,r5,r6,r7,r8⟩:=h.rules;obtain ⟨vs,⟨Ap,cp,rfl,o,_⟩,_⟩:=h.ps;clear h;have B:=zb.refl w
 go_enter Tryz.func103,Tryz.ntmps103
 go_wp2;go_ret;exact ⟨rfl,rfl⟩
theorem Ei {ok:Nat->Prop} {m:MZ} {ch us:List Int} {ps:List (List Int)} {g gu:Nat} {f u t vc vp:Value} (w:World) (h:BK w ok g m ch ps us f u t vc vp gu) (so:SOk m ch ps) (hp:0<ps.length):
  Calls Tryz.prog 87 #[.pointer (some ⟨g,0,none⟩)] w fun e w'=>e=.returned (.bool (finB m ps))/\zK w w':=by
 obtain ⟨r0,r1,r2,r3,r4,r5,r6,r7,r8⟩:=h.rules;have c4:=h.ps;have c0:=h.maze;have HS:=zh h;clear h;obtain ⟨vs,⟨Ap,cp,rfl,d4,b0⟩,a2⟩:=c4;obtain ⟨fr',up',ts',he,_,_,V⟩:=c0;injection he with he;injection he with he;simp only [List.cons.injEq,and_true,true_and] at he;obtain ⟨rfl,rfl,rfl⟩:=he;have c6:=V;obtain ⟨vst,⟨At,ct,rfl,d5,_⟩,_⟩:=c6;have hk:ps.length - 1<ps.length:=by omega
 obtain ⟨b,off,up,rfl,_,B,b2⟩:=Ai b0 a2 hk hk;have D:ps.length - 1<m.tasks.length:=by have:=so.pl;omega
 obtain ⟨bt,offt,sn,u1,u2,rfl,_,b8,a0,Q,a3,T⟩:=AJ V D;have b1:=so.lens;have d8:=so.pl;have e6:=so.good.tk;have J:=so.pp _ (EH hk);have a7:=(b1.tl _ (EH D)).2;clear b1 b0 a2 V
 have z:finB m ps=match (ps[ps.length - 1]).getLast? with | none=>false | some x=>decide (x∈(m.tasks[ps.length - 1]).2):=by
  unfold finB;simp [hk,D]
 obtain ⟨p,a8⟩:=zad (ps[ps.length - 1]);obtain ⟨tk,M⟩:=zad (m.tasks[ps.length - 1]);rw [<-a8] at b2 J z;rw [<-M] at a3 T a7 z;clear a8 M a3;have b6:=zh T;clear T;have HF:=zh z;clear z;obtain ⟨Aq,cq,rfl,G,U⟩:=b2;obtain ⟨k,a6⟩:∃k,ps.length - 1=k:=⟨_,rfl⟩;rw [a6] at B a0 Q D;have a5:(ps.length:Int) - 1=(k:Int):=by omega
 have O:=zh a5;clear a5;have d7:(k:Int)<(ps.length:Int):=by omega
 have d6:(0:Int)<=(k:Int):=by omega
 have c8:(k:Int)<(m.tasks.length:Int):=by omega
 have rp:=zb.rule B;have rt:=zb.rule Q;clear B b8 a0 Q a6 hk D;have hx:=zb.refl w;rcases List.eq_nil_or_concat p with rfl | ⟨q,x,rfl⟩
 ·have hz:([]:List Int).length=0:=rfl;rw [hz] at G
  go_enter Tryz.func87,Tryz.ntmps87
  go_wp2_with fail
  go_quiet ((go_at_call 103;refine (Bh _ (HS.out.ext ((zb.refl w).drewN _)) (by omega)).mono ?_;rintro e w9 ⟨o,rfl⟩;rw [O.out] at o;exact ⟨o,⟨_,rfl⟩⟩))
  go_wp2_with fail
  go_quiet (fail)
  go_wp2;go_ret;exact ⟨ze (by rw [HF.out];rfl),(zK.refl w).more _ |>.more _⟩
 ·rw [List.concat_eq_append] at U J G HF;have a9:(q++[x]).length=q.length+1:=by simp
  rw [a9] at G J
  have I:∃bq offq,Aq=some ⟨bq,offq,none⟩/\w.cell? ⟨bq,offq+q.length,none⟩=some (.int .i64 x):=by
   obtain ⟨bq,offq,e,_,hc⟩:=zy U (k:=q.length) (by omega) (by omega);exact ⟨bq,offq,e,by rw [hc];simp⟩
  obtain ⟨bq,offq,rfl,I⟩:=I;have rx:=zb.rule I;clear I U;have E:(q++[x]).getLast?=some x:=by simp
  rw [E] at HF;have L:(q.concat x).length=q.length+1:=by simp
  rw [L] at rp;clear E a9 L;generalize q.length=n at*;obtain ⟨N,hN⟩:=zad (n+1);rw [<-hN] at rp G J;have d9:(0:Int)<=(n:Int):=by omega
  have e0:(n:Int)<(N:Int):=by omega
  have c5:(N:Int) - 1=(n:Int):=by omega
  have e3:(0:Int)<(N:Int):=by omega
  have e4:0<N:=by omega
  have e5:IntKind.i64.wrap ((N:Int) - 1)=(n:Int):=by rw [Fb];omega
  clear hN c5
  go_enter Tryz.func87,Tryz.ntmps87
  go_wp2_with fail
  go_quiet ((go_at_call 103;refine (Bh _ (HS.out.ext ((zb.refl w).drewN _)) (by omega)).mono ?_;rintro e w9 ⟨o,rfl⟩;rw [O.out] at o;exact ⟨o,⟨_,rfl⟩⟩))
  generalize b3:w.drewN nq=w1;have a1:zK w w1:=⟨nq,b3.symm⟩;have b4:zb w w1:=a1.below _;clear b3
  go_wp2_with fail
  go_quiet (first | ((go_at_call 103;refine (Bh _ (HS.out.ext (b4.drewN _)) (by omega)).mono ?_;rintro e w9 ⟨o,rfl⟩;rw [O.out] at o;exact ⟨o,⟨_,rfl⟩⟩)) | ((go_at_call 42;refine (zB x _ (b6.out.below (b4.drewN _)) (by omega)).mono ?_;rintro e w8 ⟨b9,rfl⟩;exact ⟨b9,⟨_,rfl⟩⟩)))
  go_wp2;go_ret;exact ⟨ze (by rw [HF.out]),a1.more _⟩
theorem Cy {ok:Nat->Prop} {m:MZ} {ch us:List Int} {ps:List (List Int)} {g gu:Nat} {f u t vc vp:Value} (w:World) (h:BK w ok g m ch ps us f u t vc vp gu) (so:SOk m ch ps):
  Calls Tryz.prog 64 #[.pointer (some ⟨g,0,none⟩)] w fun e w'=>e=.returned (.bool (cmpB m ps))/\zK w w':=by
 obtain ⟨r0,r1,r2,r3,r4,r5,r6,r7,r8⟩:=h.rules;have a2:=h.ps;have a1:=h.maze;have HS:=zh h;clear h;obtain ⟨vs,⟨Ap,cp,rfl,L,a3⟩,a0⟩:=a2;obtain ⟨fr',up',ts',he,_,_,a5⟩:=a1;injection he with he;injection he with he;simp only [List.cons.injEq,and_true,true_and] at he;obtain ⟨rfl,rfl,rfl⟩:=he;obtain ⟨vst,⟨At,ct,rfl,M,_⟩,_⟩:=a5;have E:=so.pl;have B:=so.pn;have a4:=so.good.tk;have SO:=zh so;clear so;clear a3 a0;have hx:=zb.refl w;obtain ⟨cb,z⟩:=zad (cmpB m ps);have o:=zh z;rw [<-z];clear z;unfold cmpB at o;obtain ⟨T,J⟩:=zad m.tasks.length;obtain ⟨Pn,I⟩:=zad ps.length;rw [<-J] at r5 M o E B a4;rw [<-I] at r7 L o E B;have HT:=zh J;clear J;have HP:=zh I;clear I;by_cases h0:T=0
 ·have D:Hid (cb=true):=by have:=o.out;rw [EJ h0] at this;simpa [Hid] using this
  have O:decide ((T:Int)=0)=true:=EJ (by omega);have Q:((T:Int)==0)=true:=by rw [beq_iff_eq];omega
  clear h0 B
  go_enter Tryz.func64,Tryz.ntmps64
  go_wp2_with fail
  go_quiet (fail)
  go_wp2;go_ret;exact ⟨ze D.out.symm,(zK.refl w).more _⟩
 ·have O:decide ((T:Int)=0)=false:=EK (by omega);have Q:((T:Int)==0)=false:=by rw [ET];omega
  by_cases h1:Pn=T
  ·have D:Hid (cb=finB m ps):=by have:=o.out;rw [EK h0,EJ h1] at this;simpa [Hid] using this
   have G:Hid (0<ps.length):=(by have:=HP.out;omega:0<ps.length);subst h1;have U:((Pn:Int)==(Pn:Int))=true:=by rw [beq_iff_eq]
   clear h0
   go_enter Tryz.func64,Tryz.ntmps64
   go_wp2_with fail
   go_quiet ((go_at_call 87;refine (Ei _ (HS.out.ext ((zb.refl w).drewN _)) SO.out G.out).mono ?_;rintro e w9 ⟨V,nd,rfl⟩;exact ⟨V,⟨_,World.drewN_drewN _ _ _⟩⟩))
   go_wp2;go_ret;exact ⟨ze D.out.symm,(zK.refl w).more _⟩
  ·have D:Hid (cb=false):=by have:=o.out;rw [EK h0,EK h1] at this;simpa [Hid] using this
   have a8:decide ((Pn:Int)=(T:Int))=false:=EK (by omega);have U:((Pn:Int)==(T:Int))=false:=by rw [ET];omega
   clear h1 h0
   go_enter Tryz.func64,Tryz.ntmps64
   go_wp2_with fail
   go_quiet (fail)
   go_wp2;go_ret;exact ⟨ze D.out.symm,(zK.refl w).more _⟩
theorem Tryz.infoInts:(Tryz.prog.info? 23).map (fun i=>(i.zero,i.size,i.bytes))=some (some (.slice none 0 0),1,24):=by kernel_rfl
def Cd (w:World) (B:Nat) (v:Value) (vs:List Value):Prop:=w.ownsRow B 23 1 v vs.length vs
theorem DV {w:World} {ok:Nat->Prop} {v:Value} (h:zj w ok v l):v.oneCell'=true:=by
 obtain ⟨A,c,rfl,_⟩:=h;rfl
theorem BA {ok:Nat->Prop} {ops:Array Oper} {rest:List Oper} {o:Oper} {a:Act} {Q:Exit->Act->World->Prop} (D:o.guard=none) (W:World) (s x:Operand)
  (O:o.op=.call { callee:=.builtin .append,args:=#[s,x],argTypes:=#[22,22] }) (base:Nat) (l l2:List Value) (v u:Value) (U:a.eval s=v) (hx:a.eval x=u)
  (B:Cd W base v l) (V:AI W ok 1 u l2.length l2) (h1:∀u∈l2,u.oneCell'=true) (z:base<=W.heap.size) (hl:l.length+l2.length<=1000000000000)
  (h:∀v' w',Cd w' base v' (l++l2)->Hid (W.grownBy w' v.ownBlock)->Hid (v'.ownBlock=v.ownBlock\/v'.ownBlock=some W.heap.size)->wpList Tryz.prog ops Q rest (a.put o.dst v') w'):wpList Tryz.prog ops Q (o :: rest) a W:=by
 refine wpList_plain D fun K L=>?_
 obtain ⟨i0,M,E,G,I⟩:=info_parts Tryz.infoInts;obtain ⟨v',w',T,h2,h3,J⟩:=Eu (ok:=ok) W base 22 o.type 23 i0 (.slice none 0 0) 24 Tryz.underlying22 M E G I rfl v _ _ B u _ _ V h1 (by unfold maxLen;omega) (by omega) z;unfold Oper.wp execOp;simp only [O,resolve,invoke,builtin,Sem.run_bind,Sem.run_pure,Result.andThen_ok,List.map_toArray,List.map_cons,List.map_nil,U,hx,T];refine L _ _ (h v' w' ?_ h3 J);unfold Cd;rw [EO];exact h2
theorem slice_own {g c:Nat} (h:(Value.slice (some ⟨g,0,none⟩) n c).ownBlock=some k):g<=k:=by
 have h:some g=some k:=h;injection h with h;omega
theorem own_emptyL (W:World) (B:Nat) (o:B<=W.heap.size):Cd (W.alloc (.cells #[] 23)) B (.slice (some ⟨W.heap.size,0,none⟩) 0 0) []:=
 ⟨rfl,.inr ⟨W.heap.size,0,#[],rfl,o,Fu W _,EG _,by decide,rfl,rfl⟩⟩
theorem nilEq (t e:TypeId) (o:Tryz.prog.underlying t=some (.slice e)):∀(w:World) (a:Option Addr) (n c n' c':Nat),(binOp .eql t (.slice a n c) (.slice none n' c')).run Tryz.prog w=.ok (.bool a.isNone) w:=fun w a n c n' c'=>Lib.run_eql_slice_nil w _ _ a n c n' c' o
theorem DQ {ok:Nat->Prop} {v:Value} (w:World) (h:zj w ok v l) (L:l.length<=100000000000):
  Calls Tryz.prog 46 #[v] w fun e w'=>∃v',e=.returned v'/\Mk w w' v' l:=by
 have H:=zh h;have D:=nilEq 23 3 Tryz.underlying23;obtain ⟨A,c,rfl,J,z⟩:=h;rcases A with _ | a
 ·have o:l=[]:=by
   rcases Fs l.length with h | h
   ·exact EX h
   ·obtain ⟨b,off,e,_⟩:=z.2 h;cases e
  subst o;clear z
  go_enter Tryz.func46,Tryz.ntmps46
  go_wp2_with fail
  go_ret;exact ⟨_,rfl,Mk.nil _⟩
 ·clear z;have M:=zb.refl w
  go_enter Tryz.func46,Tryz.ntmps46
  go_wp2_with (at_builtin;refine BP (ok:=ok) rfl _ _ _ rfl w.heap.size [] l _ _ rfl rfl (Dg w w.heap.size (EG _)) (H.out.below ((zb.refl w).alloc _)) ?d1 ?d2 ?_)
  case d1=>simp
  case d2=>simp;omega
  intro v' w1 E B _;have G:Hid (Mk w w1 v' l):=⟨E,Ad ((zb.refl w).alloc _) B (by simp) (fun k I=>slice_own I)⟩;clear E B
  go_wp2_with fail
  go_ret;exact ⟨_,rfl,G.out⟩
theorem cloneL_calls {ok:Nat->Prop} {v:Value} {vs:List Value} (w:World) (h:AI w ok 1 v vs.length vs) (h1:∀u∈vs,u.oneCell'=true) (O:vs.length<=100000000000):
  Calls Tryz.prog 108 #[v] w fun e w'=>∃v',e=.returned v'/\zb w w'/\Cd w' w.heap.size v' vs:=by
 have H:=zh h;have G:=zh h1;clear h1;have D:=nilEq 22 23 Tryz.underlying22;obtain ⟨A,c,rfl,M,z⟩:=h;rcases A with _ | a
 ·have o:vs=[]:=by
   rcases Fs vs.length with h | h
   ·exact EX h
   ·obtain ⟨b,off,e,_⟩:=z.2 h;cases e
  subst o;clear z
  go_enter Tryz.func108,Tryz.ntmps108
  go_wp2_with fail
  go_ret;exact ⟨_,rfl,zb.refl _,World.ownsRow_nil _ _ _ _⟩
 ·clear z;have Q:=zb.refl w
  go_enter Tryz.func108,Tryz.ntmps108
  go_wp2_with (at_builtin;refine BA (ok:=ok) rfl _ _ _ rfl w.heap.size [] vs _ _ rfl rfl (own_emptyL w w.heap.size (EG _)) (H.out.below ((zb.refl w).alloc _)) G.out ?d1 ?d2 ?_)
  case d1=>simp
  case d2=>simp;omega
  intro v' w1 E B _;have J:zb w w1:=Ad ((zb.refl w).alloc _) B (by simp) (fun k L=>slice_own L);have I:=zh E;clear E B
  go_wp2_with fail
  go_ret;exact ⟨_,rfl,J,I.out⟩
def ps0 (m:MZ):List (List Int):=if m.tasks.length=0 then [] else [[]]
theorem zk.set {w:World} {g:Nat} {t:TypeId} (h:zk w g t cs) (v:Value):zk (w.setCell ⟨g,k,none⟩ v) g t (cs.setIfInBounds k v):=by
 unfold zk at h⊢;simp [World.setCell,Array.getElem?_modify,h]
theorem zk.setOther {w:World} {g:Nat} {t:TypeId} (h:zk w g t cs) {a:Addr} (o:g≠a.block) (v:Value):zk (w.setCell a v) g t cs:=
 (EP w a v g o).trans h
theorem zk.ext {w w':World} {g:Nat} {t:TypeId} (h:zk w g t cs) (o:zb w w'):zk w' g t cs:=(o.block g (zd h)).trans h
theorem zk.cell {w:World} {g k:Nat} {t:TypeId} {cs:Array Value} {v:Value} (h:zk w g t cs) (o:cs[k]?=some v):w.cell? ⟨g,k,none⟩=some v:=by
 unfold zk at h;unfold World.cell?;simp only [h];exact o
theorem zk.frozen {w:World} {g:Nat} {t:TypeId} {cs:Array Value} (h:zk w g t cs) (k:Nat):w.frozen? ⟨g,k,none⟩=false:=by
 unfold zk at h;unfold World.frozen?;simp [h]
theorem zk.new (w:World) (cs:Array Value) (t:TypeId) {g:Nat} (o:g=w.heap.size):zk (w.alloc (.cells cs t)) g t cs:=by
 subst o;exact Fu _ _
theorem BK.make {ok ok':Nat->Prop} {w W:World} {g gu:Nat} {m:MZ} {ch us:List Int} {ps:List (List Int)} {f u t vc vp:Value} (E:zb w W) (hm:zw w ok (.agg #[.int .i64 m.w,.int .i64 m.h,.int .i64 m.l,f,u,t]) m)
  (J:∀b,ok b->ok' b) (G:zk W g 100 (stCells m f u t vc vp gu)) (I:ok' g) (o:zj W ok' vc ch) (B:zv W ok' vp ps) (z:ok' gu) (D:zF W gu us):BK W ok' g m ch ps us f u t vc vp gu:=
 ⟨G,I,(hm.below E).weaken J,o,B,z,D⟩
theorem zv.nil (w:World) (ok:Nat->Prop):zv w ok (.slice none 0 0) []:=⟨[],⟨none,0,rfl,EG _,Ae.nil _ _ _ _⟩,by simp⟩
theorem Ae.block {w:World} {ok:Nat->Prop} {g:Nat} {t:TypeId} (h:zk w g t cs) (o:ok g) (z:cs.size=n):Ae w ok 1 (some ⟨g,0,none⟩) n cs.toList:=
 ⟨by simp [z],fun _=>⟨g,0,rfl,o,fun j u B=>by rw [Nat.zero_add];exact h.cell (by simpa using B)⟩⟩
theorem begin_calls {ok:Nat->Prop} {v:Value} {m:MZ} (w:World) (hm:zw w ok v m) (hl:m.tasks.length<=100000):
  Calls Tryz.prog 83 #[v] w fun e w'=>∃v',e=.returned v'/\zb w w'/\Dk w' (fun b=>ok b\/w.heap.size<=b) v' m [] (ps0 m) []:=by
 have z:=hm;obtain ⟨vfr,vup,vts,rfl,_,_,a0⟩:=hm;obtain ⟨vst,⟨At,ct,rfl,a4,_⟩,_⟩:=a0;have a5:=@run_makeMap Tryz.prog;by_cases h0:m.tasks.length=0
 ·have o:ps0 m=[]:=by unfold ps0;rw [if_pos h0]
  rw [h0] at z;have D:=zh z;clear z;have M:=zh o;clear o
  go_enter Tryz.func83,Tryz.ntmps83
  go_wp2_with fail
  go_ret;rw [M.out];have B:zb w (w.alloc (.cells #[.int .i64 m.w,.int .i64 m.h,.int .i64 m.l,vfr,vup,.slice At 0 ct] 32)):=(zb.refl w).alloc _;refine ⟨_,rfl,(B.alloc _).alloc _,w.heap.size+2,_,_,_,_,_,w.heap.size+1,rfl,BK.make ((B.alloc _).alloc _) D.out (fun _ h=>.inl h) (zk.new _ _ _ (by simp)) (.inr (by omega)) (zj.nil _ _) (zv.nil _ _) (.inr (by omega)) ?_⟩
  have h1:zF ((w.alloc (.cells #[.int .i64 m.w,.int .i64 m.h,.int .i64 m.l,vfr,vup,.slice At 0 ct] 32)).alloc (.map #[] 0)) (w.heap.size+1) []:=by
   have:=zF.new (w.alloc (.cells #[.int .i64 m.w,.int .i64 m.h,.int .i64 m.l,vfr,vup,.slice At 0 ct] 32));simpa using this
  exact h1.below ((zb.refl _).alloc _)
 ·have o:ps0 m=[[]]:=by unfold ps0;rw [if_neg h0]
  have D:=zh z;clear z;have M:=zh o;clear o
  go_enter Tryz.func83,Tryz.ntmps83
  go_wp2_with fail
  go_ret;rw [M.out];generalize J:w.alloc (.cells #[.int .i64 m.w,.int .i64 m.h,.int .i64 m.l,vfr,vup,.slice At m.tasks.length ct] 32)=w1;have B:zb w w1:=by rw [<-J];exact (zb.refl w).alloc _
  have L:w1.heap.size=w.heap.size+1:=by rw [<-J];simp
  have h1:zF (w1.alloc (.map #[] 0)) (w.heap.size+1) []:=by rw [<-L];exact zF.new w1
  have Q:zb w (w1.alloc (.map #[] 0)):=B.alloc _;generalize a1:w1.alloc (.map #[] 0)=w2 at*;have a3:w2.heap.size=w.heap.size+2:=by rw [<-a1];simp [L]
  generalize E:w2.alloc (.cells #[.int .i64 m.w,.int .i64 m.h,.int .i64 m.l,vfr,vup,.slice At m.tasks.length ct,.slice none 0 0,.slice (some ⟨w.heap.size+1+1+1,0,none⟩) 1 1,.map (some (w.heap.size+1))] 100)=w3;have T:zk w3 (w.heap.size+2) 100 (stCells m vfr vup (.slice At m.tasks.length ct) (.slice none 0 0) (.slice (some ⟨w.heap.size+3,0,none⟩) 1 1) (w.heap.size+1)):=by rw [<-E];exact zk.new _ _ _ (by omega)
  have a6:w3.heap.size=w.heap.size+3:=by rw [<-E];simp [a3]
  have O:zb w2 w3:=by rw [<-E];exact (zb.refl _).alloc _
  have G:=O.alloc (.cells #[.slice none 0 0] 23);have I:=Q.trans G;have U:=T.alloc (.cells #[.slice none 0 0] 23);have V:zk (w3.alloc (.cells #[.slice none 0 0] 23)) (w.heap.size+3) 23 #[.slice none 0 0]:=zk.new _ _ _ (by omega);refine ⟨_,rfl,I,w.heap.size+2,_,_,_,_,_,w.heap.size+1,rfl,BK.make I D.out (fun _ h=>.inl h) U (.inr (by omega)) (zj.nil _ _) ?_ (.inr (by omega)) (h1.below G)⟩
  ·exact ⟨[.slice none 0 0],⟨some ⟨w.heap.size+3,0,none⟩,1,rfl,EG _,Ae.block V (.inr (by omega)) rfl⟩,fun i x hx=>by
    match i,hx with
    | 0,hx=>
     have:x=[]:=by simpa using hx.symm
     subst this;exact ⟨_,rfl,zj.nil _ _⟩⟩
end
section
open Go.RowKit Go.Shelf
attribute [local go_sem] Oper.semAt_some
theorem values1_in (F:Fence) (n:Nat) (h7:F.fn 128) (T:F.round=none) (hn:1<=n) (l Bs n₀:Nat) (A:Option Addr) (cap:Nat) (zs:List Int) (a0:zs.length<=1000000000000) (J Jx:List Int->World->Prop)
  (hY:∀pre x W,J pre W->pre.length<zs.length->YieldAt F (n - 1) Tryz.prog l #[.int .i64 x] W fun e W'=>
   (e=.returned (.bool true)/\J (pre++[x]) W'/\Below n₀ W W')\/(e=.returned (.bool false)/\Jx (pre++[x]) W'))
  (W:World) (a5:W.cell? ⟨Bs,0,none⟩=some (.slice A zs.length cap)) (V:∀(j:Nat) (hj:j<zs.length),∃b off,A=some ⟨b,off,none⟩/\b<n₀/\W.cell? ⟨b,off+j,none⟩=some (.int .i64 (zs[j]))) (h0:J [] W):
  CallsIn F n Tryz.prog 128 #[.func (.yield l) #[] #[],.pointer (some ⟨Bs,0,none⟩)] W fun e W'=>(∃v,e=.returned v)/\
   ((∃ys,ys=zs/\J ys W')\/(∃pre,pre <+: zs/\Jx pre W')):=by
 have HC:=zh V;clear V;refine callsIn_of_wp Tryz.func128 rfl h7 ?_ T;simp only [Tryz.ntmps128,List.size_toArray,zab,zac,Nat.reduceAdd,Nat.reduceSub,Array.replicate_succ,Array.replicate_zero,List.push_toArray,List.append_toArray,List.nil_append,List.cons_append]
 gi_wp2
 gi_loopw [7] (fun i wr=>∃k:Nat,k<=zs.length/\i=.int .i64 k/\Hid (J (zs.take k) wr)/\Hid (Below n₀ W wr))
  (fun i _=>zs.length - (intOf i).toNat)
 case atStart=>exact ⟨0,EU _,rfl,h0,Below.refl _ _⟩
 case round=>
  obtain ⟨k,hk,rfl,G,M⟩:=hrel;by_cases L:k<zs.length
  ·obtain ⟨b,off,rfl,hb,z⟩:=HC.out k L;have Q:wr.cell? ⟨b,off+k,none⟩=some (.int .i64 (zs[k])):=(M.out.cell (p:=⟨b,off+k,none⟩) hb).trans z;clear z;have D:=zh (EN L);obtain ⟨x,hx⟩:=zad (zs[k]);rw [<-hx] at Q D;clear hx;obtain ⟨fn,tmps,assign,body,hy,U⟩:=hY _ x wr G.out (by simp;omega);have HR:=zh U;clear U
   gi_wp2
   refine HR.out.mono ?_;rintro e W3 (⟨rfl,E,I⟩ | ⟨rfl,o⟩)
   ·have B:=zh E;clear E;have O:=zh I;clear I
    gi_wp2
    go_roundw
    case rel=>exact ⟨k+1,by omega,by go_num,by rw [D.out];exact B,M.out.trans O.out⟩
    case measure=>simp [intOf];omega
   ·have B:=zh o;clear o
    gi_wp2
    refine FC (results_none rfl _ _ _) rfl ?_;exact ⟨⟨_,rfl⟩,.inr ⟨_,List.take_prefix (k+1) zs,by rw [D.out];exact B.out⟩⟩
  ·obtain rfl:k=zs.length:=by omega
   gi_wp2
   go_end0
   exact ⟨⟨_,rfl⟩,.inl ⟨_,rfl,by have:=G.out;rwa [ER] at this⟩⟩
theorem values_stops {ok:Nat->Prop} {v:Value} (Bs n₀ n:Nat) (Q:1<=n) (w:World) (D:Bs<w.heap.size) (hn₀:n₀<=w.heap.size) (O:w.cell? ⟨Bs,0,none⟩=some v) (h:zj w ok v l) (E:∀b,ok b->b<w.heap.size->b<n₀) (z:l.length<=1000000000000):
  SeqStopsK Fence.wide n Tryz.prog 128 #[.pointer (some ⟨Bs,0,none⟩)] (fun x:Int=>#[Value.int .i64 x]) (Below n₀) (fun ys=>ys=l) (fun pre=>pre <+: l) l.length w:=fun lb J Jx W hW _ _ L h0=>by
 obtain ⟨A,cap,rfl,G,T⟩:=h;refine values1_in Fence.wide n trivial rfl Q lb Bs n₀ A cap l z J Jx L W ((hW.cell (p:=⟨Bs,0,none⟩) D).trans O) (fun j I=>?_) h0;obtain ⟨b,off,e,M,o⟩:=zy T I I;have B:=zo o;exact ⟨b,off,e,E b M B,(hW.cell (p:=⟨b,off+j,none⟩) B).trans o⟩
theorem zj.bound {w:World} {ok:Nat->Prop} {v:Value} (h:zj w ok v l):zj w (fun b=>ok b/\b<w.heap.size) v l:=by
 obtain ⟨A,c,e,E,G,o⟩:=h;refine ⟨A,c,e,E,G,fun B=>?_⟩;obtain ⟨b,off,e',D,z⟩:=o B;have h0:0<(l.map (Value.int .i64)).length:=by simpa using B
 exact ⟨b,off,e',⟨D,zo (z 0 _ (EE h0))⟩,z⟩
theorem appendSeq_calls {ok:Nat->Prop} {v:Value} (Bs:Nat) (w:World) (O:w.cell? ⟨Bs,0,none⟩=some v) (h:zj w ok v l) (L:l.length<=1000000000000):
  Calls Tryz.prog 133 #[.slice none 0 0,.func (.func 128) #[] #[.pointer (some ⟨Bs,0,none⟩)]] w fun e w'=>∃v',e=.returned v'/\Mk w w' v' l:=by
 refine (callsIn_wide (n:=6)).1 ?_;obtain ⟨i0,hi,a0,a1,a2⟩:=info_parts Tryz.infoInt;have HI:=zh h;clear h;have a4:=zo O;refine callsIn_of_wp_marks Tryz.func133 rfl trivial ?_ rfl;simp only [Tryz.ntmps133,List.size_toArray,zab,zac,Nat.reduceAdd,Nat.reduceSub,Array.replicate_succ,Array.replicate_zero,List.push_toArray,List.append_toArray,List.nil_append,List.cons_append]
 gi_wp2
 have bO:=Boxed.new w 23 (.slice none 0 0);have G:Below w.heap.size w (w.alloc (.cells #[.slice none 0 0] 23)):=(Below.refl _ w).alloc (EG _) _
 refine wpIn_rangeFunc_ownG (F:=Fence.wide) rfl (by omega) (gf:=128) (lb:=#[.pointer (some ⟨Bs,0,none⟩)]) rfl trivial (enters_of Tryz.func128 (by kernel_rfl) rfl)
  (values_stops (ok:=fun b=>ok b/\b<w.heap.size) Bs w.heap.size _ (by omega) _ (by simp;omega) (by simp) ((zb.refl w).alloc _ |>.cell O) (HI.out.bound.below G) (fun b hb _=>hb.2) L) belowK_t (belowK_b (by simp)) (Below.refl _ _) (fun _=>rfl)
  (fun pre W=>(∃v,Boxed W w.heap.size 23 v/\W.ownsRow w.heap.size 3 1 v pre.length (pre.map (Value.int .i64))/\True)/\Below w.heap.size w W)
  (fun _ _ _=>False)
  (OwnFrom.and (Own.from (holdsRow_own w.heap.size w.heap.size 23 3 1 (fun pre:List Int=>pre.length) (fun pre:List Int=>pre.map (Value.int .i64)) (fun pre v=>True)) _) (ownFrom_below (EG _) (by simp)))
  (fun _ _ _ _ _ hs _ _=>hs)
  ⟨⟨_,bO,World.ownsRow_nil _ _ _ _,trivial⟩,G⟩
  (fun x=>{ tmps:=#[.slice none 0 0,.func (.func 128) #[] #[.pointer (some ⟨Bs,0,none⟩)],.pointer (some ⟨w.heap.size,0,none⟩),undef,.slice none 0 0,.int .i64 x,.func (.func 128) #[] #[.pointer (some ⟨Bs,0,none⟩)],.int .i64 x,undef,undef,undef,undef,undef],defers:=[] }) ?assign ?body ?done ?stop
 case assign=>
  intro l x W K I
  gi_wp2
  exact I
 case body=>
  rintro lb pre x W ⟨⟨v,Q,o,_⟩,E⟩ b0;have O:=Q.cell
  gi_wp2_with (gi_at_builtin;refine wpListIn_append_own _ rfl _ _ 23 rfl w.heap.size 3 i0 (.int .i64 0) 1 8 Tryz.underlying23 hi a0 a1 a2 rfl (by decide) _ _ _ rfl (o.alloc _) ⟨W.heap.size,0,none⟩ 1 1 [.int .i64 x] rfl rfl (cell_one_new _ _ _) (by simp [Value.oneCell']) (by unfold maxLen;omega) (by omega) (by have:=E.size;simp;omega) ?_;intro v' w1 z B _;obtain ⟨g',cap',rfl⟩:=ownsRow_succ z;obtain ⟨M,V,U,T,J⟩:=Q.appended (by decide) o E.size (EG _) z B;have a7:=M.cell;have a8:=M.frozen)
  exact ⟨T.from _,J,⟨_,V,by simpa using U,trivial⟩,E.trans J⟩
 case done=>
  rintro D ys W hD rfl ⟨⟨v,Q,o,_⟩,E⟩ I;have O:=Q.cell
  gi_wp2
  refine ⟨by simp,.inl ⟨_,_,rfl,run_takeDeferred I,?_⟩⟩;exact ⟨_,results_tmp rfl _ _ _,v,rfl,ownsRow_putObj o _ I rfl,E.trans (belowK_b (w:=w) (EG _) W D _ _ (by simp at hD;omega) I rfl rfl)⟩
 case stop=>
  rintro D c pre W _ _ h _;exact h.elim
end
end Go.Proofs.YthbjngbhbbkkgaaGreat
