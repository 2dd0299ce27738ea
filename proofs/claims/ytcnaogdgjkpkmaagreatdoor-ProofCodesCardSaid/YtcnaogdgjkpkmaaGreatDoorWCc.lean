import Derived.Test.YtcnaogdgjkpkmaaGreatDoorWCb
import Derived.Lib.SliceRun
import Derived.RangeFuncNested
import Derived.RangeFuncBound
import Derived.RangeFuncCalls
import Derived.RangeFuncLeaves
import Derived.RangeFuncBox
import Derived.Shelf.Abstract
import Derived.Maps.AppendAt
import Derived.RangeFuncWrites
import Derived.Shelf.RegionOpen
import Derived.OwnWalkIn
import Derived.TacticsInMore
import Derived.LoopNIn
import Derived.LoopIn
import Derived.Deep.RegionHeld
import Derived.CallsIn
import Derived.OrdersIn
import Derived.Shelf.SlGeneric
import Derived.Shelf.SortM.Plain
import Derived.Shelf.SortM.SortNone
import Derived.Shelf.SlicesG.CompactI
import Derived.Shelf.SlicesE.DeleteFunc
import Derived.Ground.SlgmProg
import Derived.Ground.SlgnProg
import Derived.Test.YtcnaogdgjkpkmaaGreatDoorRows
set_option linter.unusedVariables false
set_option linter.unusedSimpArgs false
set_option maxRecDepth 100000
set_option maxHeartbeats 16000000
namespace Go.Proofs.YtcnaogdgjkpkmaaGreatDoor
variable {a0:Act} {listed:Array Bool} {cs:Array Value} {l:List Int} {fuel k n:Nat} {ts:Value} {W:World}
section
open Go.RowKit
attribute [local go_sem ↓] Go.wp_at_zero Go.wp_at_succ
structure AF (m:MZ):Prop where
 dim:Dim m
 fl:m.free.length=m.tasks.length
 fn:∀f∈m.free,(f.length:Int)=m.n
 tk:m.tasks.length<=6
 tn:∀t∈m.tasks,∀x,x∈t.1\/x∈t.2->0<=x/\x<m.n
theorem AF.of {m:MZ} (h:Cc m=0):AF m:=by
 unfold Cc at h
 split at h
 ·cases h
 ·rename_i h1
  have o:[m.w,m.h,m.l].any side=false:=by simpa using h1
  obtain ⟨⟨a1,a2⟩,⟨b1,b2⟩,c1,c2⟩:=sides o
  split at h
  ·cases h
  ·rename_i h2
   split at h
   ·cases h
   ·rename_i r
    split at h
    ·cases h
    ·rename_i G
     have d:m.n<=300/\m.tasks.length<=6:=by omega
     have z:m.free.length=m.tasks.length:=by
      by_cases h:m.free.length=m.tasks.length
      ·exact h
      ·exact absurd (.inl h) r
     have B:(m.up.length:Int)=m.n:=by
      by_cases h:(m.up.length:Int)=m.n
      ·exact h
      ·exact absurd (.inr (.inl h)) r
     have D:∀f∈m.free,(f.length:Int)=m.n:=by
      intro f hf;by_cases h:(f.length:Int)=m.n
      ·exact h
      ·exact absurd (.inr (.inr (DS.2 ⟨f,hf,by simpa using h⟩))) r
     refine ⟨⟨a1,a2,b1,b2,c1,c2,d.1,B⟩,z,D,d.2,fun t ht x hx=>?_⟩;by_cases E:zX m.n x=true
     ·exfalso
      apply G;refine DS.2 ⟨t,ht,?_⟩;rw [Bool.or_eq_true];rcases hx with hx | hx
      ·exact .inl (DS.2 ⟨x,hx,E⟩)
      ·exact .inr (DS.2 ⟨x,hx,E⟩)
     ·simp [zX] at E;omega
theorem AF.n1 {m:MZ} (g:AF m):1<=m.w*m.h*m.l:=by have:=g.dim.layer;omega
def Bz (m:MZ) (node:Int):List Int:=if Cc m=0/\0<=node/\node<m.n then zo m node else []
open Classical in
noncomputable def reachO (m:MZ) (t:Int) (from_ used:List Int):List Int:=if Cc m=0/\0<=t/\t<m.tasks.length then BX m t.toNat from_ used else []
theorem rNext_calls {ok:Nat->Prop} {v:Value} {m:MZ} (node:Int) (w:World) (hm:zL w ok v m) (hl:Lens m):
  Calls Tryz.prog 111 #[v,.int .i64 node] w fun e w'=>∃v',e=.returned v'/\Mk w w' v' (Bz m node):=by
 have J:=hm;obtain ⟨vfr,vup,vts,rfl,U,_,V⟩:=hm;obtain ⟨vst,⟨At,ct,rfl,a4,_⟩,_⟩:=V;have D:=zh J;clear J;have HL:=zh hl;obtain ⟨l1,l2,l3,l4⟩:=hl;clear l4 U
 go_enter Tryz.func111,Tryz.ntmps111
 go_wp2_with fail
 generalize z:w.alloc (.cells #[.int .i64 m.w,.int .i64 m.h,.int .i64 m.l,vfr,vup,.slice At m.tasks.length ct] 35)=w1;have d:za w w1:=by rw [<-z];exact (za.refl w).alloc _
 have I:ze w1 w.heap.size 35 #[.int .i64 m.w,.int .i64 m.h,.int .i64 m.l,vfr,vup,.slice At m.tasks.length ct]:=by rw [<-z];exact DI _ _
 clear z;obtain ⟨m0,m1,m2,m3,m4,m5⟩:=zt I;have r0:=za.rule m0;have r1:=za.rule m1;have r2:=za.rule m2;have r3:=za.rule m3;have r4:=za.rule m4;have r5:=za.rule m5;clear m0 m1 m2 m3 m4 m5 I;have ra:=BT w1;have hx:za w1 w1:=za.refl w1
 go_wp2_with fail
 refine (Bv w1 (D.out.below d) HL.out).mono ?_;rintro e wA ⟨rfl,M⟩;have B:za w1 wA:=M;clear hx;by_cases r:Cc m=0
 case neg=>
  have hd:(Cc m != 0)=true:=by simpa using r
  have L:=zh r;clear r;go_wp2;go_ret;exact ⟨_,rfl,(d.trans B).mono_mk (Mk.cast (Mk.nil _) (by unfold Bz;rw [if_neg (fun h=>L.out h.1)]))⟩
 have hd:(Cc m != 0)=false:=by simpa using r
 have G:=zh (AF.of r);have L:=zh r;clear r;obtain ⟨a6,a7⟩:=G.out.dim.layer;have a8:=G.out.dim.n1;by_cases h0:0<=node
 case neg=>
  go_wp2;go_ret;exact ⟨_,rfl,(d.trans B).mono_mk (Mk.cast (Mk.nil _) (by unfold Bz;rw [if_neg (fun h=>by have:=h.2.1;omega)]))⟩
 go_wp2_with fail
 refine (zR _ _ _ _ _ _ _ (by omega) (by omega)).mono ?_;rintro e wB ⟨rfl,O⟩;have o:za w1 wB:=B.trans O;by_cases h1:node<m.w*m.h*m.l
 case neg=>
  go_wp2;go_ret;exact ⟨_,rfl,(d.trans o).mono_mk (Mk.cast (Mk.nil _) (by unfold Bz;rw [if_neg (fun h=>by have:=h.2.2;unfold MZ.n at this;omega)]))⟩
 go_wp2_with fail
 refine (Cy m node _ (D.out.below (d.trans o)) G.out.dim h0 h1).mono ?_;rintro e wC ⟨v',rfl,E,K⟩;have HM:Hid (Mk wB wC v' (zo m node)):=⟨K,E⟩;clear K;have b0:za w1 wC:=o.trans E
 go_wp2_with fail
 go_ret;exact ⟨_,rfl,(d.trans o).mono_mk (HM.out.cast (by unfold Bz;rw [if_pos ⟨L.out,h0,h1⟩]))⟩
theorem rReach_calls {ok ok1 ok2:Nat->Prop} {v vf vu:Value} {m:MZ} {from_ used:List Int} (t:Int) (w:World) (hm:zL w ok v m) (hl:Lens m) (hf:zk w ok1 vf from_) (c7:from_.length<=20000000000000) (hu:zk w ok2 vu used) (c9:used.length<=20000000000000):
  Calls Tryz.prog 87 #[v,.int .i64 t,vf,vu] w fun e w'=>∃v',e=.returned v'/\Mk w w' v' (reachO m t from_ used):=by
 have a8:=hm;obtain ⟨vfr,vup,vts,rfl,c0,_,d5⟩:=hm;obtain ⟨vst,⟨At,ct,rfl,f0,_⟩,_⟩:=d5;have V:=zh a8;clear a8;have HL:=zh hl;obtain ⟨l1,l2,l3,l4⟩:=hl;clear l4 c0;have HF:=zh hf;clear hf;have HU:=zh hu;clear hu
 go_enter Tryz.func87,Tryz.ntmps87
 go_wp2_with fail
 generalize U:w.alloc (.cells #[.int .i64 m.w,.int .i64 m.h,.int .i64 m.l,vfr,vup,.slice At m.tasks.length ct] 35)=w1;have o:za w w1:=by rw [<-U];exact (za.refl w).alloc _
 have a4:ze w1 w.heap.size 35 #[.int .i64 m.w,.int .i64 m.h,.int .i64 m.l,vfr,vup,.slice At m.tasks.length ct]:=by rw [<-U];exact DI _ _
 clear U;obtain ⟨m0,m1,m2,m3,m4,m5⟩:=zt a4;have r0:=za.rule m0;have r1:=za.rule m1;have r2:=za.rule m2;have r3:=za.rule m3;have r4:=za.rule m4;have r5:=za.rule m5;clear m0 m1 m2 m3 m4 m5 a4;have ra:=BT w1;have hx:za w1 w1:=za.refl w1
 go_wp2_with fail
 refine (Bv w1 (V.out.below o) HL.out).mono ?_;rintro e wA ⟨rfl,b8⟩;have d:za w1 wA:=b8;clear hx;by_cases O:Cc m=0
 case neg=>
  have hd:(Cc m != 0)=true:=by simpa using O
  have HC:=zh O;clear O;go_wp2;go_ret;exact ⟨_,rfl,(o.trans d).mono_mk (Mk.cast (Mk.nil _) (by unfold reachO;rw [if_neg (fun h=>HC.out h.1)]))⟩
 have hd:(Cc m != 0)=false:=by simpa using O
 have G:=zh (AF.of O);have HC:=zh O;clear O;obtain ⟨f3,f4⟩:=G.out.dim.layer;have f5:=G.out.dim.n1;by_cases h0:0<=t
 case neg=>
  go_wp2;go_ret;exact ⟨_,rfl,(o.trans d).mono_mk (Mk.cast (Mk.nil _) (by unfold reachO;rw [if_neg (fun h=>by have:=h.2.1;omega)]))⟩
 by_cases h1:t<m.tasks.length
 case neg=>
  have e7:(m.tasks.length:Int)<=t:=by omega
  go_wp2;go_ret;exact ⟨_,rfl,(o.trans d).mono_mk (Mk.cast (Mk.nil _) (by unfold reachO;rw [if_neg (fun h=>by have:=h.2.2;omega)]))⟩
 obtain ⟨tn,rfl⟩:∃tn:Nat,t=tn:=⟨t.toNat,by omega⟩;have d4:tn<m.free.length:=by have:=G.out.fl;omega
 have e1:tn<m.tasks.length:=by omega
 go_wp2_with fail
 have f7:=zh d
 go_region_held3 (fun w'=>za w1 w'/\za wA w')
  (first | (exact held_drew d) | (exact held_ext (held_drew d) z) | (exact held_ext (held_ext (held_drew d) z) a2))
  (first | ((go_at_call 125;refine (setOf_calls _ (HU.out.keep (zK.of_below (o.trans d.drew))) c9).mono ?_;rintro e w8 ⟨s8,rfl,z,b0,D⟩)) | ((go_at_call 124;refine (reach_calls tn _ (V.out.keep (zK.of_below (o.trans (d.drew.trans z)))) G.out.dim d4 G.out.fn (HF.out.keep (zK.of_below (o.trans (d.drew.trans z)))) c7 b0).mono ?_;rintro e w9 ⟨s9,rfl,a2,b1,J⟩)))
 rename_i hS
 have d6:=hS.1;have I:=zh b1;clear b1;have hE:=zh (reachL_of (used:=used) (fun x=>(J x).trans ⟨fun h=>h.congr (fun _=>Iff.rfl) D,fun h=>h.congr (fun _=>Iff.rfl) (fun y=>(D y).symm)⟩));clear J;have a5:w8.heap.size+1<w9.heap.size:=zb I.out;obtain ⟨gs,B⟩:∃gs,gs=w8.heap.size+1:=⟨_,rfl⟩;rw [<-B] at I a5;have HG:=zh B;clear z b0 D hS
 go_wp2_with fail
 rw [<-HG.out];clear B a2;refine (zR _ _ _ _ _ _ _ (by omega) (by omega)).mono ?_;rintro e wB ⟨rfl,M⟩;have d7:za w1 wB:=d6.trans M;have b5:=zh (I.out.below M);clear I a5 M;obtain ⟨N,hN⟩:∃N:Nat,m.w*m.h*m.l=(N:Int):=⟨(m.w*m.h*m.l).toNat,by omega⟩;have HN:=zh hN;clear hN;have e9:N<=300:=by have h:=HN.out;have:=G.out.dim.n1;omega
 have a1:=zh (Mk.nil wB);rw [HN.out]
 go_wp2_with fail
 go_loopw [9,34] (fun v i wr=>∃k:Nat,k<=N/\i=.int .i64 (k:Nat)/\Hid (Mk wB wr v (((List.range k).map Int.ofNat).filter (fun x=>decide (x∈s9))))) (fun _ i _=>N - (intOf i).toNat)
 case atStart=>exact ⟨0,by omega,rfl,a1⟩
 clear a1
 case round=>
  obtain ⟨j,hj,rfl,L⟩:=hrel;by_cases f2:j<N
  ·have E:((List.range (j+1)).map Int.ofNat).filter (fun x=>decide (x∈s9))=((List.range j).map Int.ofNat).filter (fun x=>decide (x∈s9))++[(j:Int)].filter (fun x=>decide (x∈s9)):=by
    rw [List.range_succ,List.map_append,List.filter_append];rfl
   have HS:=zh E;clear E;have hset:=b5.out.below L.out.ext;by_cases r:(j:Int)∈s9
   ·have c8:=look_t hset r;have K:=zh r;clear r;have a6:(((List.range j).map Int.ofNat).filter (fun x=>decide (x∈s9))).length<=j:=Da (DA _ _) (by simp);obtain ⟨lj,a7⟩:=DX (((List.range j).map Int.ofNat).filter (fun x=>decide (x∈s9)));rw [<-a7] at L a6 HS;clear a7;have f8:=L.out.ext.size
    go_wp2_with (at_builtin;refine Cf rfl _ _ rfl _ lj (j:Int) wB.heap.size wr.heap.size 1 _ rfl rfl (L.out.own.alloc _) ?d1 ?d2 ?d3 ?_)
    (try case d1=>exact zU _ _ _ (by simp))
    case d2=>(first | (simp;done) | (simp;omega) | omega)
    case d3=>omega
    intro v' wb a9 a3 b9;have b6:=zh ((L.out.alloc _).app a9 a3);clear a9 a3 b9;go_wp2;go_roundw
    case rel=>exact ⟨j+1,by omega,by go_num,by rw [HS.out,List.filter_cons_of_pos (by simpa using K.out)];exact b6⟩
    case measure=>simp [intOf];omega
   ·have c8:=look_f hset r;have K:=zh r;clear r;go_wp2;go_roundw
    case rel=>exact ⟨j+1,by omega,by go_num,by rw [HS.out,List.filter_cons_of_neg (by simpa using K.out),List.filter_nil,List.append_nil];exact L⟩
    case measure=>simp [intOf];omega
  ·have c6:j=N:=by omega
   subst c6
   go_wp2_with fail
   go_ret;refine ⟨_,rfl,(o.trans d7).mono_mk (L.out.cast ?_)⟩;have b7:m.n.toNat=j:=by have:m.n=(j:Int):=HN.out;omega
   unfold reachO;rw [if_pos ⟨HC.out,by omega,by omega⟩,DL,<-hE.out,b7]
def stCells (m:MZ) (f u t vc vp:Value) (gu:Nat):Array Value:=#[.int .i64 m.w,.int .i64 m.h,.int .i64 m.l,f,u,t,vc,vp,.map (some gu)]
structure AQ (w:World) (ok:Nat->Prop) (g:Nat) (m:MZ) (ch:List Int) (ps:List (List Int)) (us:List Int) (f u t vc vp:Value) (gu:Nat):Prop where
 blk:ze w g 97 (stCells m f u t vc vp gu)
 okg:ok g
 maze:zL w ok (.agg #[.int .i64 m.w,.int .i64 m.h,.int .i64 m.l,f,u,t]) m
 ch:zk w ok vc ch
 ps:AT w ok vp ps
 oku:ok gu
 us:zv w gu us
def BO (w:World) (ok:Nat->Prop) (v:Value) (m:MZ) (ch:List Int) (ps:List (List Int)) (us:List Int):Prop:=
 ∃g f u t vc vp gu,v=.pointer (some ⟨g,0,none⟩)/\AQ w ok g m ch ps us f u t vc vp gu
section
variable {w w':World} {ok ok':Nat->Prop} {v f u t vc vp:Value} {m:MZ} {ch us:List Int} {ps:List (List Int)} {g gu:Nat}
theorem AQ.keep (h:AQ w ok g m ch ps us f u t vc vp gu) (d:zK ok w w'):AQ w' ok g m ch ps us f u t vc vp gu:=
 ⟨(d g h.okg (zb h.blk)).trans h.blk,h.okg,h.maze.keep d,h.ch.keep d,h.ps.keep d,h.oku,h.us.keep d h.oku⟩
theorem AQ.weaken (h:AQ w ok g m ch ps us f u t vc vp gu) (d:∀b,ok b->ok' b):AQ w ok' g m ch ps us f u t vc vp gu:=
 ⟨h.blk,d _ h.okg,h.maze.weaken d,h.ch.weaken d,h.ps.weaken d,d _ h.oku,h.us⟩
theorem BO.keep (h:BO w ok v m ch ps us) (d:zK ok w w'):BO w' ok v m ch ps us:=by
 obtain ⟨g,f,u,t,vc,vp,gu,e,h⟩:=h;exact ⟨g,f,u,t,vc,vp,gu,e,h.keep d⟩
theorem BO.weaken (h:BO w ok v m ch ps us) (d:∀b,ok b->ok' b):BO w ok' v m ch ps us:=by
 obtain ⟨g,f,u,t,vc,vp,gu,e,h⟩:=h;exact ⟨g,f,u,t,vc,vp,gu,e,h.weaken d⟩
theorem BO.below (h:BO w ok v m ch ps us) (d:Below w.heap.size w w'):BO w' ok v m ch ps us:=h.keep (zK.of_below d)
theorem AQ.ext (h:AQ w ok g m ch ps us f u t vc vp gu) (d:za w w'):AQ w' ok g m ch ps us f u t vc vp gu:=h.keep (zK.of_below d)
theorem AQ.rules (h:AQ w ok g m ch ps us f u t vc vp gu):
  (∀W,za w W->W.cell? ⟨g,0,none⟩=some (.int .i64 m.w))/\(∀W,za w W->W.cell? ⟨g,1,none⟩=some (.int .i64 m.h))/\(∀W,za w W->W.cell? ⟨g,2,none⟩=some (.int .i64 m.l))/\
  (∀W,za w W->W.cell? ⟨g,3,none⟩=some f)/\(∀W,za w W->W.cell? ⟨g,4,none⟩=some u)/\(∀W,za w W->W.cell? ⟨g,5,none⟩=some t)/\
  (∀W,za w W->W.cell? ⟨g,6,none⟩=some vc)/\(∀W,za w W->W.cell? ⟨g,7,none⟩=some vp)/\(∀W,za w W->W.cell? ⟨g,8,none⟩=some (.map (some gu))):=by
 have o:=h.blk;unfold ze stCells at o
 have d:∀k x,(#[Value.int .i64 m.w,.int .i64 m.h,.int .i64 m.l,f,u,t,vc,vp,.map (some gu)]:Array Value)[k]?=some x->w.cell? ⟨g,k,none⟩=some x:=by
  intro k x r;unfold World.cell?;simp only [o];exact r
 exact ⟨za.rule (d 0 _ rfl),za.rule (d 1 _ rfl),za.rule (d 2 _ rfl),za.rule (d 3 _ rfl),za.rule (d 4 _ rfl),za.rule (d 5 _ rfl),za.rule (d 6 _ rfl),za.rule (d 7 _ rfl),za.rule (d 8 _ rfl)⟩
end
structure SOk (m:MZ) (ch:List Int) (ps:List (List Int)):Prop where
 good:AF m
 lens:Lens m
 pl:ps.length<=m.tasks.length
 pn:0<m.tasks.length->0<ps.length
 pp:∀p∈ps,p.length<=1000
 pr:∀p∈ps,∀x∈p,0<=x/\x<m.n
 cl:ch.length<=1000
def finB (m:MZ) (ps:List (List Int)):Bool:=
 match (ps.getD (ps.length - 1) []).getLast? with
 | none=>false
 | some x=>decide (x∈(m.tasks.getD (ps.length - 1) ([],[])).2)
def cmpB (m:MZ) (ps:List (List Int)):Bool:=decide (m.tasks.length=0) || (decide (ps.length=m.tasks.length) && finB m ps)
theorem Cu {w:World}:za w w.drew:=(za.refl w).drew
theorem BZ {ok:Nat->Prop} {m:MZ} {ch us:List Int} {ps:List (List Int)} {g gu:Nat} {f u t vc vp:Value} (w:World) (h:AQ w ok g m ch ps us f u t vc vp gu) (o:ps.length<=20000000000000):
  Calls Tryz.prog 126 #[.pointer (some ⟨g,0,none⟩)] w fun e w'=>e=.returned (.int .i64 ((ps.length:Int) - 1))/\w=w':=by
 obtain ⟨r0,r1,r2,r3,r4,r5,r6,r7,r8⟩:=h.rules;obtain ⟨vs,⟨Ap,cp,rfl,d,_⟩,_⟩:=h.ps;clear h;have r:=za.refl w
 go_enter Tryz.func126,Tryz.ntmps126
 go_wp2;go_ret;exact ⟨rfl,rfl⟩
theorem CK {ok:Nat->Prop} {m:MZ} {ch us:List Int} {ps:List (List Int)} {g gu:Nat} {f u t vc vp:Value} (w:World) (h:AQ w ok g m ch ps us f u t vc vp gu) (so:SOk m ch ps) (hp:0<ps.length):
  Calls Tryz.prog 94 #[.pointer (some ⟨g,0,none⟩)] w fun e w'=>e=.returned (.bool (finB m ps))/\zM w w':=by
 obtain ⟨r0,r1,r2,r3,r4,r5,r6,r7,r8⟩:=h.rules;have c6:=h.ps;have c0:=h.maze;have HS:=zh h;clear h;obtain ⟨vs,⟨Ap,cp,rfl,d6,b0⟩,a2⟩:=c6;obtain ⟨fr',up',ts',he,_,_,U⟩:=c0;injection he with he;injection he with he;simp only [List.cons.injEq,and_true,true_and] at he;obtain ⟨rfl,rfl,rfl⟩:=he;have c8:=U;obtain ⟨vst,⟨At,ct,rfl,d7,_⟩,_⟩:=c8;have hk:ps.length - 1<ps.length:=by omega
 obtain ⟨b,off,up,rfl,_,r,b2⟩:=eachAt b0 a2 hk hk;have z:ps.length - 1<m.tasks.length:=by have:=so.pl;omega
 obtain ⟨bt,offt,sn,u1,u2,rfl,_,b8,V,L,a3,M⟩:=CC U z;have b1:=so.lens;have e0:=so.pl;have e6:=so.good.tk;have G:=so.pp _ (CZ hk);have a7:=(b1.tl _ (CZ z)).2;clear b1 b0 a2 U
 have o:finB m ps=match (ps[ps.length - 1]).getLast? with | none=>false | some x=>decide (x∈(m.tasks[ps.length - 1]).2):=by
  unfold finB;simp [hk,z]
 obtain ⟨p,a8⟩:=DX (ps[ps.length - 1]);obtain ⟨tk,J⟩:=DX (m.tasks[ps.length - 1]);rw [<-a8] at b2 G o;rw [<-J] at a3 M a7 o;clear a8 J a3;have b6:=zh M;clear M;have HF:=zh o;clear o;obtain ⟨Aq,cq,rfl,D,O⟩:=b2;obtain ⟨k,a6⟩:∃k,ps.length - 1=k:=⟨_,rfl⟩;rw [a6] at r V L z;have a5:(ps.length:Int) - 1=(k:Int):=by omega
 have K:=zh a5;clear a5;have d9:(k:Int)<(ps.length:Int):=by omega
 have d8:(0:Int)<=(k:Int):=by omega
 have d4:(k:Int)<(m.tasks.length:Int):=by omega
 have rp:=za.rule r;have rt:=za.rule L;clear r b8 V L a6 hk z;have hx:=za.refl w;rcases List.eq_nil_or_concat p with rfl | ⟨q,x,rfl⟩
 ·have hz:([]:List Int).length=0:=rfl;rw [hz] at D
  go_enter Tryz.func94,Tryz.ntmps94
  go_wp2_with fail
  go_quiet ((go_at_call 126;refine (BZ _ (HS.out.ext ((za.refl w).drewN _)) (by omega)).mono ?_;rintro e w9 ⟨d,rfl⟩;rw [K.out] at d;exact ⟨d,⟨_,rfl⟩⟩))
  go_wp2_with fail
  go_quiet (fail)
  go_wp2;go_ret;exact ⟨zi (by rw [HF.out];rfl),(zM.refl w).more _ |>.more _⟩
 ·rw [List.concat_eq_append] at O G D HF;have a9:(q++[x]).length=q.length+1:=by simp
  rw [a9] at D G
  have E:∃bq offq,Aq=some ⟨bq,offq,none⟩/\w.cell? ⟨bq,offq+q.length,none⟩=some (.int .i64 x):=by
   obtain ⟨bq,offq,e,_,hc⟩:=Am O (k:=q.length) (by omega) (by omega);exact ⟨bq,offq,e,by rw [hc];simp⟩
  obtain ⟨bq,offq,rfl,E⟩:=E;have rx:=za.rule E;clear E O;have B:(q++[x]).getLast?=some x:=by simp
  rw [B] at HF;have I:(q.concat x).length=q.length+1:=by simp
  rw [I] at rp;clear B a9 I;generalize q.length=n at*;obtain ⟨N,hN⟩:=DX (n+1);rw [<-hN] at rp D G;have e1:(0:Int)<=(n:Int):=by omega
  have e2:(n:Int)<(N:Int):=by omega
  have c7:(N:Int) - 1=(n:Int):=by omega
  have e3:(0:Int)<(N:Int):=by omega
  have e4:0<N:=by omega
  have e5:IntKind.i64.wrap ((N:Int) - 1)=(n:Int):=by rw [Du];omega
  clear hN c7
  go_enter Tryz.func94,Tryz.ntmps94
  go_wp2_with fail
  go_quiet ((go_at_call 126;refine (BZ _ (HS.out.ext ((za.refl w).drewN _)) (by omega)).mono ?_;rintro e w9 ⟨d,rfl⟩;rw [K.out] at d;exact ⟨d,⟨_,rfl⟩⟩))
  generalize b3:w.drewN nq=w1;have a1:zM w w1:=⟨nq,b3.symm⟩;have b4:za w w1:=a1.below _;clear b3
  go_wp2_with fail
  go_quiet (first | ((go_at_call 126;refine (BZ _ (HS.out.ext (b4.drewN _)) (by omega)).mono ?_;rintro e w9 ⟨d,rfl⟩;rw [K.out] at d;exact ⟨d,⟨_,rfl⟩⟩)) | ((go_at_call 56;refine (zS x _ (b6.out.below (b4.drewN _)) (by omega)).mono ?_;rintro e w8 ⟨b9,rfl⟩;exact ⟨b9,⟨_,rfl⟩⟩)))
  go_wp2;go_ret;exact ⟨zi (by rw [HF.out]),a1.more _⟩
theorem complete_calls {ok:Nat->Prop} {m:MZ} {ch us:List Int} {ps:List (List Int)} {g gu:Nat} {f u t vc vp:Value} (w:World) (h:AQ w ok g m ch ps us f u t vc vp gu) (so:SOk m ch ps):
  Calls Tryz.prog 54 #[.pointer (some ⟨g,0,none⟩)] w fun e w'=>e=.returned (.bool (cmpB m ps))/\zM w w':=by
 obtain ⟨r0,r1,r2,r3,r4,r5,r6,r7,r8⟩:=h.rules;have a1:=h.ps;have V:=h.maze;have HS:=zh h;clear h;obtain ⟨vs,⟨Ap,cp,rfl,I,a2⟩,U⟩:=a1;obtain ⟨fr',up',ts',he,_,_,a4⟩:=V;injection he with he;injection he with he;simp only [List.cons.injEq,and_true,true_and] at he;obtain ⟨rfl,rfl,rfl⟩:=he;obtain ⟨vst,⟨At,ct,rfl,J,_⟩,_⟩:=a4;have B:=so.pl;have r:=so.pn;have a3:=so.good.tk;have SO:=zh so;clear so;clear a2 U;have hx:=za.refl w;obtain ⟨cb,o⟩:=DX (cmpB m ps);have d:=zh o;rw [<-o];clear o;unfold cmpB at d;obtain ⟨T,G⟩:=DX m.tasks.length;obtain ⟨Pn,E⟩:=DX ps.length;rw [<-G] at r5 J d B r a3;rw [<-E] at r7 I d B r;have HT:=zh G;clear G;have HP:=zh E;clear E;by_cases h0:T=0
 ·have z:Hid (cb=true):=by have:=d.out;rw [Db h0] at this;simpa [Hid] using this
  have K:decide ((T:Int)=0)=true:=Db (by omega);have L:((T:Int)==0)=true:=by rw [beq_iff_eq];omega
  clear h0 r
  go_enter Tryz.func54,Tryz.ntmps54
  go_wp2_with fail
  go_quiet (fail)
  go_wp2;go_ret;exact ⟨zi z.out.symm,(zM.refl w).more _⟩
 ·have K:decide ((T:Int)=0)=false:=Dc (by omega);have L:((T:Int)==0)=false:=by rw [Dn];omega
  by_cases h1:Pn=T
  ·have z:Hid (cb=finB m ps):=by have:=d.out;rw [Dc h0,Db h1] at this;simpa [Hid] using this
   have D:Hid (0<ps.length):=(by have:=HP.out;omega:0<ps.length);subst h1;have M:((Pn:Int)==(Pn:Int))=true:=by rw [beq_iff_eq]
   clear h0
   go_enter Tryz.func54,Tryz.ntmps54
   go_wp2_with fail
   go_quiet ((go_at_call 94;refine (CK _ (HS.out.ext ((za.refl w).drewN _)) SO.out D.out).mono ?_;rintro e w9 ⟨O,nd,rfl⟩;exact ⟨O,⟨_,World.drewN_drewN _ _ _⟩⟩))
   go_wp2;go_ret;exact ⟨zi z.out.symm,(zM.refl w).more _⟩
  ·have z:Hid (cb=false):=by have:=d.out;rw [Dc h0,Dc h1] at this;simpa [Hid] using this
   have a7:decide ((Pn:Int)=(T:Int))=false:=Dc (by omega);have M:((Pn:Int)==(T:Int))=false:=by rw [Dn];omega
   clear h1 h0
   go_enter Tryz.func54,Tryz.ntmps54
   go_wp2_with fail
   go_quiet (fail)
   go_wp2;go_ret;exact ⟨zi z.out.symm,(zM.refl w).more _⟩
theorem Tryz.infoInts:(Tryz.prog.info? 24).map (fun i=>(i.zero,i.size,i.bytes))=some (some (.slice none 0 0),1,24):=by kernel_rfl
def OwnL (w:World) (B:Nat) (v:Value) (vs:List Value):Prop:=w.ownsRow B 24 1 v vs.length vs
theorem ints_oneCell {w:World} {ok:Nat->Prop} {v:Value} (h:zk w ok v l):v.oneCell'=true:=by
 obtain ⟨A,c,rfl,_⟩:=h;rfl
theorem BF {ok:Nat->Prop} {ops:Array Oper} {rest:List Oper} {o:Oper} {a:Act} {Q:Exit->Act->World->Prop} (z:o.guard=none) (W:World) (s x:Operand)
  (M:o.op=.call { callee:=.builtin .append,args:=#[s,x],argTypes:=#[22,22] }) (base:Nat) (l l2:List Value) (v u:Value) (U:a.eval s=v) (hx:a.eval x=u)
  (r:OwnL W base v l) (V:Ay W ok 1 u l2.length l2) (h1:∀u∈l2,u.oneCell'=true) (d:base<=W.heap.size) (hl:l.length+l2.length<=1000000000000)
  (h:∀v' w',OwnL w' base v' (l++l2)->Hid (W.grownBy w' v.ownBlock)->Hid (v'.ownBlock=v.ownBlock\/v'.ownBlock=some W.heap.size)->wpList Tryz.prog ops Q rest (a.put o.dst v') w'):wpList Tryz.prog ops Q (o :: rest) a W:=by
 refine wpList_plain z fun K J=>?_
 obtain ⟨i0,L,B,D,E⟩:=info_parts Tryz.infoInts;obtain ⟨v',w',O,h2,G,I⟩:=CP (ok:=ok) W base 22 o.type 24 i0 (.slice none 0 0) 24 Tryz.underlying22 L B D E rfl v _ _ r u _ _ V h1 (by unfold maxLen;omega) (by omega) d;unfold Oper.wp execOp;simp only [M,resolve,invoke,builtin,Sem.run_bind,Sem.run_pure,Result.andThen_ok,List.map_toArray,List.map_cons,List.map_nil,U,hx,O];refine J _ _ (h v' w' ?_ G I);unfold OwnL;rw [Dh];exact h2
theorem slice_own {g c:Nat} (h:(Value.slice (some ⟨g,0,none⟩) n c).ownBlock=some k):g<=k:=by
 have h:some g=some k:=h;injection h with h;omega
theorem own_emptyL (W:World) (B:Nat) (d:B<=W.heap.size):OwnL (W.alloc (.cells #[] 24)) B (.slice (some ⟨W.heap.size,0,none⟩) 0 0) []:=
 ⟨rfl,.inr ⟨W.heap.size,0,#[],rfl,d,DI W _,CY _,by decide,rfl,rfl⟩⟩
theorem nilEq (t e:TypeId) (ht:Tryz.prog.underlying t=some (.slice e)):∀(w:World) (a:Option Addr) (n c n' c':Nat),(binOp .eql t (.slice a n c) (.slice none n' c')).run Tryz.prog w=.ok (.bool a.isNone) w:=fun w a n c n' c'=>Lib.run_eql_slice_nil w _ _ a n c n' c' ht
theorem cloneI_calls {ok:Nat->Prop} {v:Value} (w:World) (h:zk w ok v l) (I:l.length<=100000000000):
  Calls Tryz.prog 55 #[v] w fun e w'=>∃v',e=.returned v'/\Mk w w' v' l:=by
 have H:=zh h;have z:=nilEq 24 3 Tryz.underlying24;obtain ⟨A,c,rfl,G,o⟩:=h;rcases A with _ | a
 ·have d:l=[]:=by
   rcases DG l.length with h | h
   ·exact Dq h
   ·obtain ⟨b,off,e,_⟩:=o.2 h;cases e
  subst d;clear o
  go_enter Tryz.func55,Tryz.ntmps55
  go_wp2_with fail
  go_ret;exact ⟨_,rfl,Mk.nil _⟩
 ·clear o;have J:=za.refl w
  go_enter Tryz.func55,Tryz.ntmps55
  go_wp2_with (at_builtin;refine Cb (ok:=ok) rfl _ _ _ rfl w.heap.size [] l _ _ rfl rfl (own_empty w w.heap.size (CY _)) (H.out.below ((za.refl w).alloc _)) ?d1 ?d2 ?_)
  case d1=>simp
  case d2=>simp;omega
  intro v' w1 B r _;have D:Hid (Mk w w1 v' l):=⟨B,AM ((za.refl w).alloc _) r (by simp) (fun k E=>slice_own E)⟩;clear B r
  go_wp2_with fail
  go_ret;exact ⟨_,rfl,D.out⟩
theorem cloneL_calls {ok:Nat->Prop} {v:Value} {vs:List Value} (w:World) (h:Ay w ok 1 v vs.length vs) (h1:∀u∈vs,u.oneCell'=true) (K:vs.length<=100000000000):
  Calls Tryz.prog 107 #[v] w fun e w'=>∃v',e=.returned v'/\za w w'/\OwnL w' w.heap.size v' vs:=by
 have H:=zh h;have D:=zh h1;clear h1;have z:=nilEq 22 24 Tryz.underlying22;obtain ⟨A,c,rfl,J,o⟩:=h;rcases A with _ | a
 ·have d:vs=[]:=by
   rcases DG vs.length with h | h
   ·exact Dq h
   ·obtain ⟨b,off,e,_⟩:=o.2 h;cases e
  subst d;clear o
  go_enter Tryz.func107,Tryz.ntmps107
  go_wp2_with fail
  go_ret;exact ⟨_,rfl,za.refl _,World.ownsRow_nil _ _ _ _⟩
 ·clear o;have L:=za.refl w
  go_enter Tryz.func107,Tryz.ntmps107
  go_wp2_with (at_builtin;refine BF (ok:=ok) rfl _ _ _ rfl w.heap.size [] vs _ _ rfl rfl (own_emptyL w w.heap.size (CY _)) (H.out.below ((za.refl w).alloc _)) D.out ?d1 ?d2 ?_)
  case d1=>simp
  case d2=>simp;omega
  intro v' w1 B r _;have G:za w w1:=AM ((za.refl w).alloc _) r (by simp) (fun k I=>slice_own I);have E:=zh B;clear B r
  go_wp2_with fail
  go_ret;exact ⟨_,rfl,G,E.out⟩
def ps0 (m:MZ):List (List Int):=if m.tasks.length=0 then [] else [[]]
theorem ze.set {w:World} {g:Nat} {t:TypeId} (h:ze w g t cs) (v:Value):ze (w.setCell ⟨g,k,none⟩ v) g t (cs.setIfInBounds k v):=by
 unfold ze at h⊢;simp [World.setCell,Array.getElem?_modify,h]
theorem ze.setOther {w:World} {g:Nat} {t:TypeId} (h:ze w g t cs) {a:Addr} (d:g≠a.block) (v:Value):ze (w.setCell a v) g t cs:=
 (Di w a v g d).trans h
theorem ze.ext {w w':World} {g:Nat} {t:TypeId} (h:ze w g t cs) (d:za w w'):ze w' g t cs:=(d.block g (zb h)).trans h
theorem ze.cell {w:World} {g k:Nat} {t:TypeId} {cs:Array Value} {v:Value} (h:ze w g t cs) (d:cs[k]?=some v):w.cell? ⟨g,k,none⟩=some v:=by
 unfold ze at h;unfold World.cell?;simp only [h];exact d
theorem ze.frozen {w:World} {g:Nat} {t:TypeId} {cs:Array Value} (h:ze w g t cs) (k:Nat):w.frozen? ⟨g,k,none⟩=false:=by
 unfold ze at h;unfold World.frozen?;simp [h]
theorem ze.new (w:World) (cs:Array Value) (t:TypeId) {g:Nat} (d:g=w.heap.size):ze (w.alloc (.cells cs t)) g t cs:=by
 subst d;exact DI _ _
theorem AQ.make {ok ok':Nat->Prop} {w:World} {g gu:Nat} {m:MZ} {ch us:List Int} {ps:List (List Int)} {f u t vc vp:Value} (B:za w W) (hm:zL w ok (.agg #[.int .i64 m.w,.int .i64 m.h,.int .i64 m.l,f,u,t]) m)
  (G:∀b,ok b->ok' b) (D:ze W g 97 (stCells m f u t vc vp gu)) (E:ok' g) (d:zk W ok' vc ch) (r:AT W ok' vp ps) (o:ok' gu) (z:zv W gu us):AQ W ok' g m ch ps us f u t vc vp gu:=
 ⟨D,E,(hm.below B).weaken G,d,r,o,z⟩
theorem AT.nil (w:World) (ok:Nat->Prop):AT w ok (.slice none 0 0) []:=⟨[],⟨none,0,rfl,CY _,Aj.nil _ _ _ _⟩,by simp⟩
theorem Aj.block {w:World} {ok:Nat->Prop} {g:Nat} {t:TypeId} (h:ze w g t cs) (d:ok g) (o:cs.size=n):Aj w ok 1 (some ⟨g,0,none⟩) n cs.toList:=
 ⟨by simp [o],fun _=>⟨g,0,rfl,d,fun j u r=>by rw [Nat.zero_add];exact h.cell (by simpa using r)⟩⟩
theorem begin_calls {ok:Nat->Prop} {v:Value} {m:MZ} (w:World) (hm:zL w ok v m) (hl:m.tasks.length<=100000):
  Calls Tryz.prog 90 #[v] w fun e w'=>∃v',e=.returned v'/\za w w'/\BO w' (fun b=>ok b\/w.heap.size<=b) v' m [] (ps0 m) []:=by
 have o:=hm;obtain ⟨vfr,vup,vts,rfl,_,_,V⟩:=hm;obtain ⟨vst,⟨At,ct,rfl,a4,_⟩,_⟩:=V;have a5:=@run_makeMap Tryz.prog;by_cases h0:m.tasks.length=0
 ·have d:ps0 m=[]:=by unfold ps0;rw [if_pos h0]
  rw [h0] at o;have z:=zh o;clear o;have J:=zh d;clear d
  go_enter Tryz.func90,Tryz.ntmps90
  go_wp2_with fail
  go_ret;rw [J.out];have r:za w (w.alloc (.cells #[.int .i64 m.w,.int .i64 m.h,.int .i64 m.l,vfr,vup,.slice At 0 ct] 35)):=(za.refl w).alloc _;refine ⟨_,rfl,(r.alloc _).alloc _,w.heap.size+2,_,_,_,_,_,w.heap.size+1,rfl,AQ.make ((r.alloc _).alloc _) z.out (fun _ h=>.inl h) (ze.new _ _ _ (by simp)) (.inr (by omega)) (zk.nil _ _) (AT.nil _ _) (.inr (by omega)) ?_⟩
  have h1:zv ((w.alloc (.cells #[.int .i64 m.w,.int .i64 m.h,.int .i64 m.l,vfr,vup,.slice At 0 ct] 35)).alloc (.map #[] 0)) (w.heap.size+1) []:=by
   have:=zv.new (w.alloc (.cells #[.int .i64 m.w,.int .i64 m.h,.int .i64 m.l,vfr,vup,.slice At 0 ct] 35));simpa using this
  exact h1.below ((za.refl _).alloc _)
 ·have d:ps0 m=[[]]:=by unfold ps0;rw [if_neg h0]
  have z:=zh o;clear o;have J:=zh d;clear d
  go_enter Tryz.func90,Tryz.ntmps90
  go_wp2_with fail
  go_ret;rw [J.out];generalize G:w.alloc (.cells #[.int .i64 m.w,.int .i64 m.h,.int .i64 m.l,vfr,vup,.slice At m.tasks.length ct] 35)=w1;have r:za w w1:=by rw [<-G];exact (za.refl w).alloc _
  have I:w1.heap.size=w.heap.size+1:=by rw [<-G];simp
  have h1:zv (w1.alloc (.map #[] 0)) (w.heap.size+1) []:=by rw [<-I];exact zv.new w1
  have L:za w (w1.alloc (.map #[] 0)):=r.alloc _;generalize a1:w1.alloc (.map #[] 0)=w2 at*;have a3:w2.heap.size=w.heap.size+2:=by rw [<-a1];simp [I]
  generalize B:w2.alloc (.cells #[.int .i64 m.w,.int .i64 m.h,.int .i64 m.l,vfr,vup,.slice At m.tasks.length ct,.slice none 0 0,.slice (some ⟨w.heap.size+1+1+1,0,none⟩) 1 1,.map (some (w.heap.size+1))] 97)=w3;have M:ze w3 (w.heap.size+2) 97 (stCells m vfr vup (.slice At m.tasks.length ct) (.slice none 0 0) (.slice (some ⟨w.heap.size+3,0,none⟩) 1 1) (w.heap.size+1)):=by rw [<-B];exact ze.new _ _ _ (by omega)
  have a6:w3.heap.size=w.heap.size+3:=by rw [<-B];simp [a3]
  have K:za w2 w3:=by rw [<-B];exact (za.refl _).alloc _
  have D:=K.alloc (.cells #[.slice none 0 0] 24);have E:=L.trans D;have O:=M.alloc (.cells #[.slice none 0 0] 24);have U:ze (w3.alloc (.cells #[.slice none 0 0] 24)) (w.heap.size+3) 24 #[.slice none 0 0]:=ze.new _ _ _ (by omega);refine ⟨_,rfl,E,w.heap.size+2,_,_,_,_,_,w.heap.size+1,rfl,AQ.make E z.out (fun _ h=>.inl h) O (.inr (by omega)) (zk.nil _ _) ?_ (.inr (by omega)) (h1.below D)⟩
  ·exact ⟨[.slice none 0 0],⟨some ⟨w.heap.size+3,0,none⟩,1,rfl,CY _,Aj.block U (.inr (by omega)) rfl⟩,fun i x hx=>by
    match i,hx with
    | 0,hx=>
     have:x=[]:=by simpa using hx.symm
     subst this;exact ⟨_,rfl,zk.nil _ _⟩⟩
end
section
open Go.RowKit Go.Shelf
attribute [local go_sem] Oper.semAt_some
theorem values1_in (F:Fence) (n:Nat) (h7:F.fn 142) (M:F.round=none) (hn:1<=n) (l Bs n₀:Nat) (A:Option Addr) (cap:Nat) (zs:List Int) (V:zs.length<=1000000000000) (J Jx:List Int->World->Prop)
  (hY:∀pre x W,J pre W->pre.length<zs.length->YieldAt F (n - 1) Tryz.prog l #[.int .i64 x] W fun e W'=>
   (e=.returned (.bool true)/\J (pre++[x]) W'/\Below n₀ W W')\/(e=.returned (.bool false)/\Jx (pre++[x]) W'))
  (W:World) (a5:W.cell? ⟨Bs,0,none⟩=some (.slice A zs.length cap)) (U:∀(j:Nat) (hj:j<zs.length),∃b off,A=some ⟨b,off,none⟩/\b<n₀/\W.cell? ⟨b,off+j,none⟩=some (.int .i64 (zs[j]))) (h0:J [] W):
  CallsIn F n Tryz.prog 142 #[.func (.yield l) #[] #[],.pointer (some ⟨Bs,0,none⟩)] W fun e W'=>(∃v,e=.returned v)/\
   ((∃ys,ys=zs/\J ys W')\/(∃pre,pre <+: zs/\Jx pre W')):=by
 have HC:=zh U;clear U;refine callsIn_of_wp Tryz.func142 rfl h7 ?_ M;simp only [Tryz.ntmps142,List.size_toArray,DV,DW,Nat.reduceAdd,Nat.reduceSub,Array.replicate_succ,Array.replicate_zero,List.push_toArray,List.append_toArray,List.nil_append,List.cons_append]
 gi_wp2
 gi_loopw [7] (fun i wr=>∃k:Nat,k<=zs.length/\i=.int .i64 k/\Hid (J (zs.take k) wr)/\Hid (Below n₀ W wr))
  (fun i _=>zs.length - (intOf i).toNat)
 case atStart=>exact ⟨0,Do _,rfl,h0,Below.refl _ _⟩
 case round=>
  obtain ⟨k,hk,rfl,D,I⟩:=hrel;by_cases G:k<zs.length
  ·obtain ⟨b,off,rfl,hb,o⟩:=HC.out k G;have L:wr.cell? ⟨b,off+k,none⟩=some (.int .i64 (zs[k])):=(I.out.cell (p:=⟨b,off+k,none⟩) hb).trans o;clear o;have z:=zh (Dg G);obtain ⟨x,hx⟩:=DX (zs[k]);rw [<-hx] at L z;clear hx;obtain ⟨fn,tmps,assign,body,hy,O⟩:=hY _ x wr D.out (by simp;omega);have HR:=zh O;clear O
   gi_wp2
   refine HR.out.mono ?_;rintro e W3 (⟨rfl,B,E⟩ | ⟨rfl,d⟩)
   ·have r:=zh B;clear B;have K:=zh E;clear E
    gi_wp2
    go_roundw
    case rel=>exact ⟨k+1,by omega,by go_num,by rw [z.out];exact r,I.out.trans K.out⟩
    case measure=>simp [intOf];omega
   ·have r:=zh d;clear d
    gi_wp2
    refine DM (results_none rfl _ _ _) rfl ?_;exact ⟨⟨_,rfl⟩,.inr ⟨_,List.take_prefix (k+1) zs,by rw [z.out];exact r.out⟩⟩
  ·obtain rfl:k=zs.length:=by omega
   gi_wp2
   go_end0
   exact ⟨⟨_,rfl⟩,.inl ⟨_,rfl,by have:=D.out;rwa [Dl] at this⟩⟩
theorem values_stops {ok:Nat->Prop} {v:Value} (Bs n₀ n:Nat) (L:1<=n) (w:World) (z:Bs<w.heap.size) (hn₀:n₀<=w.heap.size) (K:w.cell? ⟨Bs,0,none⟩=some v) (h:zk w ok v l) (B:∀b,ok b->b<w.heap.size->b<n₀) (o:l.length<=1000000000000):
  SeqStopsK Fence.wide n Tryz.prog 142 #[.pointer (some ⟨Bs,0,none⟩)] (fun x:Int=>#[Value.int .i64 x]) (Below n₀) (fun ys=>ys=l) (fun pre=>pre <+: l) l.length w:=fun lb J Jx W hW _ _ G h0=>by
 obtain ⟨A,cap,rfl,D,M⟩:=h;refine values1_in Fence.wide n trivial rfl L lb Bs n₀ A cap l o J Jx G W ((hW.cell (p:=⟨Bs,0,none⟩) z).trans K) (fun j E=>?_) h0;obtain ⟨b,off,e,I,d⟩:=Am M E E;have r:=zA d;exact ⟨b,off,e,B b I r,(hW.cell (p:=⟨b,off+j,none⟩) r).trans d⟩
theorem zk.bound {w:World} {ok:Nat->Prop} {v:Value} (h:zk w ok v l):zk w (fun b=>ok b/\b<w.heap.size) v l:=by
 obtain ⟨A,c,e,B,D,d⟩:=h;refine ⟨A,c,e,B,D,fun r=>?_⟩;obtain ⟨b,off,e',z,o⟩:=d r;have h0:0<(l.map (Value.int .i64)).length:=by simpa using r
 exact ⟨b,off,e',⟨z,zA (o 0 _ (CW h0))⟩,o⟩
theorem appendSeq_calls {ok:Nat->Prop} {v:Value} (Bs:Nat) (w:World) (L:w.cell? ⟨Bs,0,none⟩=some v) (h:zk w ok v l) (I:l.length<=1000000000000):
  Calls Tryz.prog 154 #[.slice none 0 0,.func (.func 142) #[] #[.pointer (some ⟨Bs,0,none⟩)]] w fun e w'=>∃v',e=.returned v'/\Mk w w' v' l:=by
 refine (callsIn_wide (n:=6)).1 ?_;obtain ⟨i0,hi,a1,a2,a3⟩:=info_parts Tryz.infoInt;have HI:=zh h;clear h;have a5:=zA L;refine callsIn_of_wp_marks Tryz.func154 rfl trivial ?_ rfl;simp only [Tryz.ntmps154,List.size_toArray,DV,DW,Nat.reduceAdd,Nat.reduceSub,Array.replicate_succ,Array.replicate_zero,List.push_toArray,List.append_toArray,List.nil_append,List.cons_append]
 gi_wp2
 have bO:=Boxed.new w 24 (.slice none 0 0);have B:Below w.heap.size w (w.alloc (.cells #[.slice none 0 0] 24)):=(Below.refl _ w).alloc (CY _) _
 refine wpIn_rangeFunc_ownG (F:=Fence.wide) rfl (by omega) (gf:=142) (lb:=#[.pointer (some ⟨Bs,0,none⟩)]) rfl trivial (enters_of Tryz.func142 (by kernel_rfl) rfl)
  (values_stops (ok:=fun b=>ok b/\b<w.heap.size) Bs w.heap.size _ (by omega) _ (by simp;omega) (by simp) ((za.refl w).alloc _ |>.cell L) (HI.out.bound.below B) (fun b hb _=>hb.2) I) belowK_t (belowK_b (by simp)) (Below.refl _ _) (fun _=>rfl)
  (fun pre W=>(∃v,Boxed W w.heap.size 24 v/\W.ownsRow w.heap.size 3 1 v pre.length (pre.map (Value.int .i64))/\True)/\Below w.heap.size w W)
  (fun _ _ _=>False)
  (OwnFrom.and (Own.from (holdsRow_own w.heap.size w.heap.size 24 3 1 (fun pre:List Int=>pre.length) (fun pre:List Int=>pre.map (Value.int .i64)) (fun pre v=>True)) _) (ownFrom_below (CY _) (by simp)))
  (fun _ _ _ _ _ hs _ _=>hs)
  ⟨⟨_,bO,World.ownsRow_nil _ _ _ _,trivial⟩,B⟩
  (fun x=>{ tmps:=#[.slice none 0 0,.func (.func 142) #[] #[.pointer (some ⟨Bs,0,none⟩)],.pointer (some ⟨w.heap.size,0,none⟩),undef,.slice none 0 0,.int .i64 x,.func (.func 142) #[] #[.pointer (some ⟨Bs,0,none⟩)],.int .i64 x,undef,undef,undef,undef,undef],defers:=[] }) ?assign ?body ?done ?stop
 case assign=>
  intro l x W K E
  gi_wp2
  exact E
 case body=>
  rintro lb pre x W ⟨⟨v,M,d,_⟩,z⟩ b1;have L:=M.cell
  gi_wp2_with (gi_at_builtin;refine wpListIn_append_own _ rfl _ _ 24 rfl w.heap.size 3 i0 (.int .i64 0) 1 8 Tryz.underlying24 hi a1 a2 a3 rfl (by decide) _ _ _ rfl (d.alloc _) ⟨W.heap.size,0,none⟩ 1 1 [.int .i64 x] rfl rfl (cell_one_new _ _ _) (by simp [Value.oneCell']) (by unfold maxLen;omega) (by omega) (by have:=z.size;simp;omega) ?_;intro v' w1 o r _;obtain ⟨g',cap',rfl⟩:=ownsRow_succ o;obtain ⟨J,V,U,O,G⟩:=M.appended (by decide) d z.size (CY _) o r;have a8:=J.cell;have a9:=J.frozen)
  exact ⟨O.from _,G,⟨_,V,by simpa using U,trivial⟩,z.trans G⟩
 case done=>
  rintro D ys W hD rfl ⟨⟨v,M,d,_⟩,z⟩ E;have L:=M.cell
  gi_wp2
  refine ⟨by simp,.inl ⟨_,_,rfl,run_takeDeferred E,?_⟩⟩;exact ⟨_,results_tmp rfl _ _ _,v,rfl,ownsRow_putObj d _ E rfl,z.trans (belowK_b (w:=w) (CY _) W D _ _ (by simp at hD;omega) E rfl rfl)⟩
 case stop=>
  rintro D c pre W _ _ h _;exact h.elim
end
section
open Go.RowKit
section
variable {P:Program} {ops:Array Oper} {Q:Exit->Act->World->Prop} {md:Region.Mode} {S:World->Prop}
def Bw (ops:Array Oper) (j:Nat):Option Tmp:=(ops[j]?).bind (·.dst)
def zN (ops:Array Oper) (v:Nat->Value):List Nat->Act->Act
 | [],a=>a
 | j :: js,a=>zN ops v js (a.put (Bw ops j) (v j))
def Ba {α:Type} (f:Nat->α) (j:Nat) (x:α):Nat->α:=fun k=>if k=j then x else f k
theorem upd_same {α:Type} (f:Nat->α) (j:Nat) (x:α):Ba f j x j=x:=by simp [Ba]
theorem upd_ne {α:Type} (f:Nat->α) {j:Nat} (x:α) (h:k≠j):Ba f j x k=f k:=by simp [Ba,h]
theorem put_put (a:Act) (d:Option Tmp) (x y:Value):(a.put d x).put d y=a.put d y:=by
 cases d with
 | none=>rfl
 | some d=>simp [Act.put]
theorem put_comm (a:Act) {d d':Option Tmp} (x y:Value) (h:d=d'->d=none):(a.put d x).put d' y=(a.put d' y).put d x:=by
 cases d with
 | none=>rfl
 | some d=>
  cases d' with
  | none=>rfl
  | some d'=>
   have o:d≠d':=fun e=>by subst e;exact absurd (h rfl) (by simp)
   simp only [Act.put];rw [Array.setIfInBounds_comm _ _ o]
theorem putAll_put (v:Nat->Value) (d:Option Tmp) (x:Value):∀(js:List Nat) (a:Act),(∀k∈js,Bw ops k=d->d=none)->(zN ops v js a).put d x=zN ops v js (a.put d x)
 | [],_,_=>rfl
 | k :: js,a,h=>by
  simp only [zN];rw [putAll_put v d x js _ (fun k' o=>h k' (Dt _ o)),put_comm a _ _ (fun e=>by rw [e];exact h k (DH ..) e)]
theorem putAll_upd (v:Nat->Value) (j:Nat) (x:Value):∀(js:List Nat) (a:Act),j∉js->zN ops (Ba v j x) js a=zN ops v js a
 | [],_,_=>rfl
 | k :: js,a,h=>by
  simp only [zN];rw [upd_ne v x (fun e=>h (by simp [e])),putAll_upd v j x js _ (fun d=>h (Dt _ d))]
def Dist (ops:Array Oper) (js:List Nat):Prop:=∀j∈js,∀k∈js,j≠k->Bw ops j=Bw ops k->Bw ops k=none
theorem putAll_set (v:Nat->Value) (j:Nat) (x:Value):∀(js:List Nat) (a:Act),js.Nodup->Dist ops js->j∈js->(zN ops v js a).put (Bw ops j) x=zN ops (Ba v j x) js a
 | [],_,_,_,h=>by cases h
 | k :: js,a,G,r,h=>by
  obtain ⟨z,o⟩:=List.nodup_cons.1 G;simp only [zN];by_cases e:j=k
  ·subst e;rw [upd_same,putAll_upd v j x js _ z,putAll_put v _ x js _ (fun k' d he=>r k' (Dt _ d) j (DH ..) (fun e=>z (e ▸ d)) he),put_put]
  ·have E:j∈js:=by
    rcases DJ.1 h with h | h
    ·exact absurd h e
    ·exact h
   rw [upd_ne v x (fun h=>e h.symm)];exact putAll_set v j x js _ o (fun a B b D=>r a (Dt _ B) b (Dt _ D)) E
theorem put_self (a:Act) (d:Option Tmp):∃x,a.put d x=a:=by
 cases d with
 | none=>exact ⟨undef,rfl⟩
 | some d=>
  refine ⟨a.tmps.getD d undef,?_⟩;obtain ⟨t,ds⟩:=a;simp only [Act.put,Act.mk.injEq,and_true];apply Array.ext_getElem?;intro i;rw [Array.getElem?_setIfInBounds]
  split
  ·rename_i h
   subst h
   split
   ·rename_i h;simp [Array.getD,h]
   ·rename_i h;rw [Array.getElem?_eq_none (by omega)]
  ·rfl
theorem putAll_self (a:Act):∀(js:List Nat),js.Nodup->∃v,zN ops v js a=a
 | [],_=>⟨fun _=>undef,rfl⟩
 | j :: js,h=>by
  obtain ⟨d,o⟩:=List.nodup_cons.1 h;obtain ⟨v,r⟩:=putAll_self a js o;obtain ⟨x,z⟩:=put_self a (Bw ops j);refine ⟨Ba v j x,?_⟩;simp only [zN];rw [upd_same,putAll_upd v j x js _ d,z,r]
def regionB (md:Region.Mode) (ops:Array Oper) (js:List Nat):Bool:=
 ((List.range ops.size).all fun j=>match ops[j]? with | none=>false | some o=>o.after.toList.all fun e=>!Region.binds md e || decide (e.on<j)) &&
 decide js.Nodup && (js.all fun j=>decide (j<ops.size)) && (js.all fun j=>js.all fun k=>decide (j=k) || !(decide (Bw ops j=Bw ops k)) || decide (Bw ops k=none))
def leftB (ops:Array Oper) (listed:Array Bool) (js:List Nat):Bool:=decide (listed.size=ops.size) && (List.range listed.size).all fun k=>listed.getD k true || decide (k∈js)
def StepTo (ops:Array Oper) (S:World->Prop) (J:(Nat->Bool)->(Nat->Value)->World->Prop) (js:List Nat) (a0:Act) (j:Nat) (e:Nat->Bool) (v:Nat->Value) (K:Act->World->Prop):Prop:=
 ∀a' x w',(zN ops v js a0).put (Bw ops j) x=a'->S w'->J (Ba e j true) (Ba v j x) w'->K a' w'
theorem wpAnyH_inv {js:List Nat} {J:(Nat->Bool)->(Nat->Value)->World->Prop} (hB:regionB md ops js=true)
  (step:∀j∈js,∀e v w,J e v w->S w->e j=false->(∀o,ops[j]?=some o->∀d∈o.after,Region.binds md d=true->e d.on=true)->∀o,ops[j]?=some o->∀K:Act->World->Prop,Hid (StepTo ops S J js a0 j e v K)->
   if Region.wanted o (yielded ops (zN ops v js a0).tmps)=true then Oper.wp P o (zN ops v js a0) w K Q else K ((zN ops v js a0).put o.dst undef) w)
  (fin:∀v w,J (fun _=>true) v w->S w->Q .normal (zN ops v js a0) w):
  ∀(fuel:Nat) (listed:Array Bool) (v:Nat->Value) (w:World),listed.size=ops.size->(∀k,listed.getD k true=false->k∈js)->(js.filter fun k=>!listed.getD k true).length<=fuel->S w->J (fun k=>listed.getD k true) v w->
   wpAnyH P md ops Q S fuel listed (zN ops v js a0) w:=by
 unfold regionB at hB;simp only [Dm,DT,Dj,Bool.or_eq_true,Bool.not_eq_true',Dw] at hB;obtain ⟨⟨⟨h1,h2⟩,h3⟩,h4⟩:=hB
 have hD:Dist ops js:=fun j hj k G b3 he=>by
  rcases h4 j hj k G with (h | h) | h
  ·exact absurd h b3
  ·exact absurd he h
  ·exact h
 have O:∀listed:Array Bool,(∀k,listed.getD k true=true)->(fun k=>listed.getD k true)=fun _=>true:=fun listed h=>funext h
 have L:∀listed:Array Bool,listed.size=ops.size->(∀k,listed.getD k true=false->k∈js)->Region.ready md ops listed=[]->∀k,listed.getD k true=true:=by
  intro listed M r hr
  have G:∀n k,k<n->listed.getD k true=true:=by
   intro n
   induction n with
   | zero=>intro k h;omega
   | succ n ih=>
    intro k d5
    cases hv:listed.getD k true with
    | true=>rfl
    | false=>
     exfalso
     have D:=h3 k (r k hv)
     have U:k∈Region.ready md ops listed:=mem_ready.2 ⟨hv,ops[k],Array.getElem?_eq_getElem D,fun e he hb=>by
      have:=h1 k (DR.2 D);rw [Array.getElem?_eq_getElem D] at this;have h5:=(DT.1 this) e (by simpa using he);simp only [Bool.or_eq_true,Bool.not_eq_true',Dj] at h5
      have h6:e.on<k:=by
       rcases h5 with h5 | h5
       ·rw [hb] at h5;cases h5
       ·exact h5
      have h7:=ih e.on (by omega);have h8:e.on<listed.size:=by omega
      simp only [Array.getD,h8,dif_pos] at h7⊢;exact h7⟩
     rw [hr] at U;cases U
  exact fun k=>G (k+1) k (by omega)
 intro fuel
 induction fuel with
 | zero=>
  intro listed v w M r hc hS hJ
  have hf:∀k,listed.getD k true=true:=fun k=>by
   cases hv:listed.getD k true with
   | true=>rfl
   | false=>
    exfalso
    have:k∈js.filter fun k=>!listed.getD k true:=DP.2 ⟨r k hv,by rw [hv];rfl⟩
    rw [Dq (Nat.le_zero.1 hc)] at this;cases this
  refine ⟨?_,fin v w (by rw [<-O listed hf];exact hJ) hS⟩;apply List.eq_nil_iff_forall_not_mem.2;intro j hj;have:=(mem_ready.1 hj).1;rw [hf j] at this;cases this
 | succ fuel ih=>
  intro listed v w M r hc hS hJ;refine ⟨fun hr=>fin v w (by rw [<-O listed (L listed M r hr)];exact hJ) hS,fun i hi=>?_⟩;obtain ⟨a1,o,ho,V⟩:=mem_ready.1 hi;have B:=r i a1;refine wpOp_step ho fun K' hK=>?_
  have D:i<listed.size:=by have:=h3 i B;omega
  refine step i B (fun k=>listed.getD k true) v w hJ hS a1 (fun o' I d hd hb=>?_) o ho K' fun a' x w' ha a4 a3=>?_
  ·rw [ho] at I;injection I with I;subst I;have h9:=V d hd hb;by_cases a2:d.on<listed.size
   ·simp only [Array.getD,a2,dif_pos] at h9⊢;exact h9
   ·simp only [Array.getD,a2,dif_neg,not_false_eq_true] at h9;cases h9
  ·refine hK _ _ ⟨a4,?_⟩
   have E:Ba (fun k=>listed.getD k true) i true=fun k=>(listed.setIfInBounds i true).getD k true:=by
    funext k;by_cases G:k=i
    ·subst G;rw [upd_same];simp [Array.getD,D]
    ·rw [upd_ne _ _ G];simp only [Array.getD,Array.size_setIfInBounds]
     split
     ·rename_i h
      show listed[k]=(listed.setIfInBounds i true)[k]'(by simpa using h);rw [Array.getElem_setIfInBounds,if_neg (Ne.symm G)]
     ·rfl
   rw [E] at a3;rw [<-ha,putAll_set v i x js a0 h2 hD B];refine ih (listed.setIfInBounds i true) (Ba v i x) w' (by simpa using M) (fun k G=>?_) ?_ a4 a3
   ·by_cases z:k=i
    ·rw [z];exact B
    ·have:=congrFun E k;rw [upd_ne _ _ z] at this;exact r k (this.trans G)
   ·have b1:(js.filter fun k=>!(listed.setIfInBounds i true).getD k true)=(js.filter fun k=>!listed.getD k true).erase i:=by
     rw [List.Nodup.erase_eq_filter (h2.filter _),List.filter_filter];apply List.filter_congr;intro k G;have:=congrFun E k;rw [<-this];by_cases z:k=i
     ·subst z;simp [upd_same]
     ·rw [upd_ne _ _ z];simp [z]
    rw [b1,List.length_erase_of_mem (DP.2 ⟨B,by show (!listed.getD i true)=true;rw [a1];rfl⟩)];omega
theorem wpAnyH_by_inv (js:List Nat) (J:(Nat->Bool)->(Nat->Value)->World->Prop) {w:World} (z:regionB md ops js=true) (hL:leftB ops listed js=true) (hf:js.length<=fuel) (E:S w)
  (init:∀e v,(∀j∈js,e j=false)->J e v w)
  (B:(js.all fun j=>!listed.getD j true)=true)
  (step:∀j∈js,∀e v w,J e v w->S w->e j=false->(∀o,ops[j]?=some o->∀d∈o.after,Region.binds md d=true->e d.on=true)->∀o,ops[j]?=some o->∀K:Act->World->Prop,Hid (StepTo ops S J js a0 j e v K)->
   if Region.wanted o (yielded ops (zN ops v js a0).tmps)=true then Oper.wp P o (zN ops v js a0) w K Q else K ((zN ops v js a0).put o.dst undef) w)
  (fin:∀v w,J (fun _=>true) v w->S w->Q .normal (zN ops v js a0) w):wpAnyH P md ops Q S fuel listed a0 w:=by
 unfold leftB at hL;simp only [Dm,DT,Dj,Bool.or_eq_true] at hL
 have I:js.Nodup:=by
  unfold regionB at z;simp only [Dm,Dj] at z;exact z.1.1.2
 obtain ⟨v,L⟩:=putAll_self (ops:=ops) a0 js I
 have h:=wpAnyH_inv z step fin fuel listed v w hL.1 (fun k D=>by
  by_cases r:k<listed.size
  ·rcases hL.2 k (DR.2 r) with h | h
   ·rw [D] at h;cases h
   ·exact h
  ·simp [Array.getD,r] at D) (Da (DA _ _) hf) E (init _ _ (fun j G=>by
   have:=DT.1 B j G;simpa using this))
 rwa [L] at h
end
section
variable {P:Program} {ops:Array Oper} {Q:Exit->Act->World->Prop} {md:Region.Mode} {S:World->Prop}
def StepToF (F:(Nat->Value)->Act) (d:Option Tmp) (S:World->Prop) (J:(Nat->Bool)->(Nat->Value)->World->Prop) (j:Nat) (e:Nat->Bool) (v:Nat->Value) (K:Act->World->Prop):Prop:=
 ∀a' x w',(F v).put d x=a'->S w'->J (Ba e j true) (Ba v j x) w'->K a' w'
def zp (P:Program) (ops:Array Oper) (Q:Exit->Act->World->Prop) (md:Region.Mode) (F:(Nat->Value)->Act) (S:World->Prop) (J:(Nat->Bool)->(Nat->Value)->World->Prop) (js:List Nat):Prop:=
 ∀j∈js,∀e v w,J e v w->S w->e j=false->∀o,ops[j]?=some o->(∀d∈o.after,Region.binds md d=true->e d.on=true)->∀K:Act->World->Prop,Hid (StepToF F o.dst S J j e v K)->
   if Region.wanted o (yielded ops (F v).tmps)=true then Oper.wp P o (F v) w K Q else K ((F v).put o.dst undef) w
theorem zp.nil {F:(Nat->Value)->Act} {J:(Nat->Bool)->(Nat->Value)->World->Prop}:zp P ops Q md F S J []:=fun _ h=>by cases h
theorem zp.cons {F:(Nat->Value)->Act} {J:(Nat->Bool)->(Nat->Value)->World->Prop} {j:Nat} {js:List Nat} {o:Oper} (G:ops[j]?=some o)
  (h:∀e v w (K:Act->World->Prop),J e v w->S w->e j=false->(∀d∈o.after,Region.binds md d=true->e d.on=true)->Hid (StepToF F o.dst S J j e v K)->
   if Region.wanted o (yielded ops (F v).tmps)=true then Oper.wp P o (F v) w K Q else K ((F v).put o.dst undef) w)
  (I:zp P ops Q md F S J js):zp P ops Q md F S J (j :: js):=by
 intro k hk;rcases DJ.1 hk with rfl | hk
 ·intro e v w z D he o' r E K B;rw [G] at r;injection r with r;subst r;exact h e v w K z D he E B
 ·exact I k hk
theorem Bg (js:List Nat) (J:(Nat->Bool)->(Nat->Value)->World->Prop) {F:(Nat->Value)->Act} {w:World} (I:regionB md ops js=true) (hL:leftB ops listed js=true) (hf:js.length<=fuel) (d:S w)
  (hF:∀v,zN ops v js a0=F v) (init:∀e v,(∀j∈js,e j=false)->J e v w) (G:(js.all fun j=>!listed.getD j true)=true) (step:zp P ops Q md F S J js)
  (fin:∀v w,J (fun _=>true) v w->S w->Q .normal (F v) w):wpAnyH P md ops Q S fuel listed a0 w:=by
 refine wpAnyH_by_inv js J I hL hf d init G (fun j U e v w z d he O o E K L=>?_) (fun v w z d=>by rw [hF v];exact fin v w z d);have r:Bw ops j=o.dst:=by unfold Bw;rw [E];rfl
 have h:=step j U e v w z d he o E (O o E) K (fun a' x w' M D B=>L.out a' x w' (by rw [hF v,r];exact M) D B);rw [hF v];exact h
end
def GivesB {α:Type} (n:Nat) (P:Program) (g:Nat) (lb:Array Value) (encs:α->Array Value) (G:Nat->α->World->Prop) (N:Nat) (w:World):Prop:=
 ∀(l:Nat) (J:Nat->World->Prop) (Jx:World->Prop) (W:World),za w W->w.heap.size<=l->l<W.heap.size->(∀k A B,J k A->Below W.heap.size A B->J k B)->(∀A B,Jx A->Below W.heap.size A B->Jx B)->
  (∀k x W1,k<N->J k W1->G k x W1->YieldAt Fence.wide (n - 1) P l (encs x) W1 fun e W'=>(e=.returned (.bool true)/\J (k+1) W'/\W1.grownBy W' (some l))\/(e=.returned (.bool false)/\Jx W'))->
  J 0 W->
  CallsIn Fence.wide n P g (#[.func (.yield l) #[] #[]]++lb) W fun e W'=>(∃v,e=.returned v)/\(J N W'\/Jx W')
theorem Ad {B l:Nat} (o:Obj) (h:B<=l) (d:l<W.heap.size):Below B W (W.putObj l o):=
 (Below.refl B W).grown (grownBy_putObj' W l o) (by omega) (fun k e=>by cases e;exact h)
end
section
open Go.RowKit
attribute [local go_sem ↓] Go.wp_at_zero Go.wp_at_succ
theorem AQ.freeCell {w:World} {ok:Nat->Prop} {g gu t:Nat} {m:MZ} {ch us:List Int} {ps:List (List Int)} {f u vc vp:Value} (h:AQ w ok g m ch ps us f u ts vc vp gu) (hfn:∀f∈m.free,(f.length:Int)=m.n) (ht:t<m.free.length) {n:Int} (h0:0<=n) (h1:n<m.n):
  ∃b off c b' off' l c',f=.slice (some ⟨b,off,none⟩) m.free.length c/\w.cell? ⟨b,off+t,none⟩=some (.slice (some ⟨b',off',none⟩) l c')/\n<(l:Int)/\l<=c'/\m.free.length<=c/\w.cell? ⟨b',off'+n.toNat,none⟩=some (.bool (zg m t n)):=by
 obtain ⟨fr',up',ts',he,o,_,_⟩:=h.maze;injection he with he;injection he with he;simp only [List.cons.injEq,and_true,true_and] at he;obtain ⟨rfl,rfl,rfl⟩:=he;obtain ⟨vsf,⟨Af,cf,rfl,E,K⟩,G⟩:=o;obtain ⟨bf,off3,uf,rfl,_,z,B⟩:=eachAt K G ht ht;have I:=hfn _ (CZ ht);obtain ⟨A4,c4,rfl,D,J⟩:=B;have r:n.toNat<(m.free[t]).length:=by omega
 obtain ⟨b4,off4,rfl,_,d⟩:=Cr J r r;have o:(m.free[t])[n.toNat]=zg m t n:=by simp [zg,ht,r]
 rw [o] at d;exact ⟨bf,off3,cf,b4,off4,_,c4,rfl,z,by omega,D,E,d⟩
theorem cand1_calls {ok:Nat->Prop} {m:MZ} {ch us:List Int} {ps:List (List Int)} {g gu g1 g2:Nat} {f u vc vp:Value} (t:Nat) (n:Int) (w:World) (h:AQ w ok g m ch ps us f u ts vc vp gu) (hfn:∀f∈m.free,(f.length:Int)=m.n) (ht:t<m.free.length)
  (I:w.cell? ⟨g1,0,none⟩=some (.pointer (some ⟨g,0,none⟩))) (J:w.cell? ⟨g2,0,none⟩=some (.int .i64 t)) (h0:0<=n) (h1:n<m.n):
  Calls Tryz.prog 127 #[.int .i64 n,.pointer (some ⟨g1,0,none⟩),.pointer (some ⟨g2,0,none⟩)] w fun e w'=>e=.returned (.bool (zg m t n && !decide (n∈us)))/\zM w w':=by
 obtain ⟨r0,r1,r2,r3,r4,r5,r6,r7,r8⟩:=h.rules;obtain ⟨b,off,c,b',off',l,c',rfl,G,U,L,K,r⟩:=h.freeCell hfn ht h0 h1;have B:=h.us;clear h hfn;have V:=za.refl w;have O:(t:Int)<(m.free.length:Int):=by omega
 have M:(0:Int)<=(t:Int):=by omega
 obtain ⟨fb,z⟩:=DX (zg m t n);rw [<-z] at r⊢;clear z h1;by_cases o:n∈us
 ·have E:=fun q=>look_t (B.below ((za.refl w).drewN q)) o
  have D:=zh o;clear o;have d:Hid ((fb && !decide (n∈us))=false):=by show _=false;rw [Db D.out];cases fb <;> rfl
  cases fb with
  | false=>
   go_enter Tryz.func127,Tryz.ntmps127
   go_wp2_with fail
   go_quiet (fail)
   go_wp2;go_ret;exact ⟨zi d.out.symm,(zM.refl w).more _⟩
  | true=>
   go_enter Tryz.func127,Tryz.ntmps127
   go_wp2_with fail
   go_quiet (fail)
   go_wp2;go_ret;exact ⟨zi d.out.symm,(zM.refl w).more _⟩
 ·have E:=fun q=>look_f (B.below ((za.refl w).drewN q)) o
  have D:=zh o;clear o;have d:Hid ((fb && !decide (n∈us))=fb):=by show _=fb;rw [Dc D.out];cases fb <;> rfl
  cases fb with
  | false=>
   go_enter Tryz.func127,Tryz.ntmps127
   go_wp2_with fail
   go_quiet (fail)
   go_wp2;go_ret;exact ⟨zi d.out.symm,(zM.refl w).more _⟩
  | true=>
   go_enter Tryz.func127,Tryz.ntmps127
   go_wp2_with fail
   go_quiet (fail)
   go_wp2;go_ret;exact ⟨zi d.out.symm,(zM.refl w).more _⟩
end
section
open Go.Shelf
def sortA_ren:Go.Shelf.Ren:=⟨fun | 5=>141 | 8=>156 | 7=>155 | 19=>177 | 20=>158 | 10=>168 | 11=>169 | 12=>170 | 13=>171 | 14=>172 | 15=>173 | 16=>174 | 17=>175 | 18=>176 | 30=>187 | 31=>188 | 32=>189 | 33=>190 | 34=>191 | 35=>192 | 40=>197 | n=>n,fun | 23=>24 | 25=>3 | 3=>3 | 32=>188 | 22=>24 | 0=>0 | 44=>191 | 46=>177 | 4=>4 | 36=>202 | 35=>201 | 41=>154 | 5=>5 | 9=>9 | 53=>215 | 57=>219 | 63=>230 | 64=>231 | n=>n,fun | n=>n⟩
theorem sortA:Go.Proofs.SlLaysM.n5 Tryz.prog sortA_ren:=by
 constructor
 all_goals try first | kernel_rfl | (intro _;kernel_rfl)
 exact ⟨Tryz.f141.name,by decide,by kernel_rfl⟩;exact ⟨Tryz.f155.name,by decide,by kernel_rfl⟩;exact ⟨Tryz.f168.name,by decide,by kernel_rfl⟩;exact ⟨Tryz.f169.name,by decide,by kernel_rfl⟩;exact ⟨Tryz.f170.name,by decide,by kernel_rfl⟩;exact ⟨Tryz.f171.name,by decide,by kernel_rfl⟩;exact ⟨Tryz.f172.name,by decide,by kernel_rfl⟩;exact ⟨Tryz.f173.name,by decide,by kernel_rfl⟩;exact ⟨Tryz.f174.name,by decide,by kernel_rfl⟩;exact ⟨Tryz.f175.name,by decide,by kernel_rfl⟩;exact ⟨Tryz.f176.name,by decide,by kernel_rfl⟩;exact ⟨Tryz.f187.name,by decide,by kernel_rfl⟩;exact ⟨Tryz.f190.name,by decide,by kernel_rfl⟩;exact ⟨Tryz.f191.name,by decide,by kernel_rfl⟩;exact ⟨Tryz.f192.name,by decide,by kernel_rfl⟩;exact ⟨Tryz.f197.name,by decide,by kernel_rfl⟩
def compactA_ren:Go.Shelf.Ren:=⟨fun | 43=>128 | n=>n,fun | 22=>24 | 23=>3 | 3=>3 | 4=>4 | 0=>0 | n=>n,fun | n=>n⟩
theorem compactA:Go.Proofs.SlLaysN.n43 Tryz.prog compactA_ren:=by
 constructor
 all_goals try first | kernel_rfl | (intro _;kernel_rfl)
 exact ⟨Tryz.f128.name,by decide,by kernel_rfl⟩
end
end Go.Proofs.YtcnaogdgjkpkmaaGreatDoor
