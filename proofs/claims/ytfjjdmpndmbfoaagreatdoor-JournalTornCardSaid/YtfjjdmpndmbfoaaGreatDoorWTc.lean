import Derived.Test.YtfjjdmpndmbfoaaGreatDoorWTb
import Derived.Lib.SliceRun
import Derived.RangeFuncNested
import Derived.RangeFuncBound
import Derived.RangeFuncCalls
import Derived.RangeFuncLeaves
import Derived.RangeFuncBox
import Derived.Shelf.Abstract
import Derived.Maps.AppendAt
import Derived.RangeFuncWrites
import Derived.Shelf.RegionOpen
import Derived.OwnWalkIn
import Derived.TacticsInMore
import Derived.LoopNIn
import Derived.LoopIn
import Derived.Deep.RegionHeld
import Derived.CallsIn
import Derived.OrdersIn
set_option linter.unusedVariables false
set_option linter.unusedSimpArgs false
set_option maxRecDepth 100000
set_option maxHeartbeats 16000000
namespace Go.Proofs.YtfjjdmpndmbfoaaGreatDoor
variable {a a0:Act} {K:Act->World->Prop} {listed:Array Bool} {cs:Array Value} {l:List Int} {js:List Nat} {fuel k n:Nat} {o:Oper}
section
open Go.RowKit
attribute [local go_sem ↓] Go.wp_at_zero Go.wp_at_succ
structure zX (m:MZ):Prop where
 dim:Dim m
 fl:m.free.length=m.tasks.length
 fn:∀f∈m.free,(f.length:Int)=m.n
 tk:m.tasks.length<=6
 tn:∀t∈m.tasks,∀x,x∈t.1\/x∈t.2->0<=x/\x<m.n
theorem zX.of {m:MZ} (h:BS m=0):zX m:=by
 unfold BS at h
 split at h
 ·cases h
 ·rename_i h1
  have B:[m.w,m.h,m.l].any side=false:=by simpa using h1
  obtain ⟨⟨a1,a2⟩,⟨b1,b2⟩,c1,c2⟩:=sides B
  split at h
  ·cases h
  ·rename_i O
   split at h
   ·cases h
   ·rename_i D
    split at h
    ·cases h
    ·rename_i M
     have d:m.n<=300/\m.tasks.length<=6:=by omega
     have E:m.free.length=m.tasks.length:=by
      by_cases h:m.free.length=m.tasks.length
      ·exact h
      ·exact absurd (.inl h) D
     have G:(m.up.length:Int)=m.n:=by
      by_cases h:(m.up.length:Int)=m.n
      ·exact h
      ·exact absurd (.inr (.inl h)) D
     have I:∀f∈m.free,(f.length:Int)=m.n:=by
      intro f hf;by_cases h:(f.length:Int)=m.n
      ·exact h
      ·exact absurd (.inr (.inr (ED.2 ⟨f,hf,by simpa using h⟩))) D
     refine ⟨⟨a1,a2,b1,b2,c1,c2,d.1,G⟩,E,I,d.2,fun t ht x hx=>?_⟩;by_cases J:Am m.n x=true
     ·exfalso
      apply M;refine ED.2 ⟨t,ht,?_⟩;rw [EC];rcases hx with hx | hx
      ·exact .inl (ED.2 ⟨x,hx,J⟩)
      ·exact .inr (ED.2 ⟨x,hx,J⟩)
     ·simp [Am] at J;omega
theorem zX.n1 {m:MZ} (g:zX m):1<=m.w*m.h*m.l:=by have:=g.dim.layer;omega
def nextO (m:MZ) (node:Int):List Int:=if BS m=0/\0<=node/\node<m.n then zy m node else []
open Classical in
noncomputable def reachO (m:MZ) (t:Int) (from_ used:List Int):List Int:=if BS m=0/\0<=t/\t<m.tasks.length then Bv m t.toNat from_ used else []
theorem rReach_calls {ok ok1 ok2:Nat->Prop} {v vf vu:Value} {m:MZ} {from_ used:List Int} (t:Int) (w:World) (hm:Ad w ok v m) (hl:Lens m) (hf:zl w ok1 vf from_) (d6:from_.length<=20000000000000) (hu:zl w ok2 vu used) (d8:used.length<=20000000000000):
  Calls Tryz.prog 106 #[v,.int .i64 t,vf,vu] w fun e w'=>∃v',e=.returned v'/\Mk w w' v' (reachO m t from_ used):=by
 have b3:=hm;obtain ⟨vfr,vup,vts,rfl,d4,_,e0⟩:=hm;obtain ⟨vst,⟨At,ct,rfl,f5,_⟩,_⟩:=e0;have a5:=zh b3;clear b3;have HL:=zh hl;obtain ⟨l1,l2,l3,l4⟩:=hl;clear l4 d4;have HF:=zh hf;clear hf;have HU:=zh hu;clear hu
 go_enter Tryz.func106,Tryz.ntmps106
 go_wp2_with fail
 generalize a4:w.alloc (.cells #[.int .i64 m.w,.int .i64 m.h,.int .i64 m.l,vfr,vup,.slice At m.tasks.length ct] 29)=w1;have B:zc w w1:=by rw [<-a4];exact (zc.refl w).alloc _
 have a9:zg w1 w.heap.size 29 #[.int .i64 m.w,.int .i64 m.h,.int .i64 m.l,vfr,vup,.slice At m.tasks.length ct]:=by rw [<-a4];exact Ep _ _
 clear a4;obtain ⟨m0,m1,m2,m3,m4,m5⟩:=zw a9;have r0:=zc.rule m0;have r1:=zc.rule m1;have r2:=zc.rule m2;have r3:=zc.rule m3;have r4:=zc.rule m4;have r5:=zc.rule m5;clear m0 m1 m2 m3 m4 m5 a9;have ra:=ext_allocs w1;have hx:zc w1 w1:=zc.refl w1
 go_wp2_with fail
 refine (By w1 (a5.out.below B) HL.out).mono ?_;rintro e wA ⟨rfl,c8⟩;have d:zc w1 wA:=c8;clear hx;by_cases hc:BS m=0
 case neg=>
  have hd:(BS m != 0)=true:=by simpa using hc
  have HC:=zh hc;clear hc;go_wp2;go_ret;exact ⟨_,rfl,(B.trans d).mono_mk (Mk.cast (Mk.nil _) (by unfold reachO;rw [if_neg (fun h=>HC.out h.1)]))⟩
 have hd:(BS m != 0)=false:=by simpa using hc
 have G:=zh (zX.of hc);have HC:=zh hc;clear hc;obtain ⟨f8,f9⟩:=G.out.dim.layer;have g0:=G.out.dim.n1;by_cases h0:0<=t
 case neg=>
  go_wp2;go_ret;exact ⟨_,rfl,(B.trans d).mono_mk (Mk.cast (Mk.nil _) (by unfold reachO;rw [if_neg (fun h=>by have:=h.2.1;omega)]))⟩
 by_cases h1:t<m.tasks.length
 case neg=>
  have f2:(m.tasks.length:Int)<=t:=by omega
  go_wp2;go_ret;exact ⟨_,rfl,(B.trans d).mono_mk (Mk.cast (Mk.nil _) (by unfold reachO;rw [if_neg (fun h=>by have:=h.2.2;omega)]))⟩
 obtain ⟨tn,rfl⟩:∃tn:Nat,t=tn:=⟨t.toNat,by omega⟩;have d9:tn<m.free.length:=by have:=G.out.fl;omega
 have e6:tn<m.tasks.length:=by omega
 go_wp2_with fail
 have g3:=zh d
 go_region_held3 (fun w'=>zc w1 w'/\zc wA w')
  (first | (exact held_drew d) | (exact held_ext (held_drew d) E) | (exact held_ext (held_ext (held_drew d) E) a7))
  (first | ((go_at_call 134;refine (setOf_calls _ (HU.out.keep (zZ.of_below (B.trans d.drew))) d8).mono ?_;rintro e w8 ⟨s8,rfl,E,b5,J⟩)) | ((go_at_call 101;refine (reach_calls tn _ (a5.out.keep (zZ.of_below (B.trans (d.drew.trans E)))) G.out.dim d9 G.out.fn (HF.out.keep (zZ.of_below (B.trans (d.drew.trans E)))) d6 b5).mono ?_;rintro e w9 ⟨s9,rfl,a7,b6,U⟩)))
 rename_i hS
 have e1:=hS.1;have O:=zh b6;clear b6;have hE:=zh (reachL_of (used:=used) (fun x=>(U x).trans ⟨fun h=>h.congr (fun _=>Iff.rfl) J,fun h=>h.congr (fun _=>Iff.rfl) (fun y=>(J y).symm)⟩));clear U;have b0:w8.heap.size+1<w9.heap.size:=za O.out;obtain ⟨gs,I⟩:∃gs,gs=w8.heap.size+1:=⟨_,rfl⟩;rw [<-I] at O b0;have HG:=zh I;clear E b5 J hS
 go_wp2_with fail
 rw [<-HG.out];clear I a7;refine (Ar _ _ _ _ _ _ _ (by omega) (by omega)).mono ?_;rintro e wB ⟨rfl,a2⟩;have e2:zc w1 wB:=e1.trans a2;have c0:=zh (O.out.below a2);clear O b0 a2;obtain ⟨N,hN⟩:∃N:Nat,m.w*m.h*m.l=(N:Int):=⟨(m.w*m.h*m.l).toNat,by omega⟩;have HN:=zh hN;clear hN;have f4:N<=300:=by have h:=HN.out;have:=G.out.dim.n1;omega
 have a6:=zh (Mk.nil wB);rw [HN.out]
 go_wp2_with fail
 go_loopw [9,34] (fun v i wr=>∃k:Nat,k<=N/\i=.int .i64 (k:Nat)/\Hid (Mk wB wr v (((List.range k).map Int.ofNat).filter (fun x=>decide (x∈s9))))) (fun _ i _=>N - (intOf i).toNat)
 case atStart=>exact ⟨0,by omega,rfl,a6⟩
 clear a6
 case round=>
  obtain ⟨j,hj,rfl,hM⟩:=hrel;by_cases f7:j<N
  ·have M:((List.range (j+1)).map Int.ofNat).filter (fun x=>decide (x∈s9))=((List.range j).map Int.ofNat).filter (fun x=>decide (x∈s9))++[(j:Int)].filter (fun x=>decide (x∈s9)):=by
    rw [List.range_succ,Et,List.filter_append];rfl
   have HS:=zh M;clear M;have hset:=c0.out.below hM.out.ext;by_cases D:(j:Int)∈s9
   ·have d7:=look_t hset D;have V:=zh D;clear D;have b1:(((List.range j).map Int.ofNat).filter (fun x=>decide (x∈s9))).length<=j:=DG (Eg _ _) (by simp);obtain ⟨lj,b2⟩:=EH (((List.range j).map Int.ofNat).filter (fun x=>decide (x∈s9)));rw [<-b2] at hM b1 HS;clear b2;have g4:=hM.out.ext.size
    go_wp2_with (at_builtin;refine Dj rfl _ _ rfl _ lj (j:Int) wB.heap.size wr.heap.size 1 _ rfl rfl (hM.out.own.alloc _) ?d1 ?d2 ?d3 ?_)
    (try case d1=>exact zQ _ _ _ (by simp))
    case d2=>(first | (simp;done) | (simp;omega) | omega)
    case d3=>omega
    intro v' wb b4 a8 c9;have c6:=zh ((hM.out.alloc _).app b4 a8);clear b4 a8 c9;go_wp2;go_roundw
    case rel=>exact ⟨j+1,by omega,by go_num,by rw [HS.out,List.filter_cons_of_pos (by simpa using V.out)];exact c6⟩
    case measure=>simp [intOf];omega
   ·have d7:=look_f hset D;have V:=zh D;clear D;go_wp2;go_roundw
    case rel=>exact ⟨j+1,by omega,by go_num,by rw [HS.out,List.filter_cons_of_neg (by simpa using V.out),List.filter_nil,List.append_nil];exact hM⟩
    case measure=>simp [intOf];omega
  ·have d5:j=N:=by omega
   subst d5
   go_wp2_with fail
   go_ret;refine ⟨_,rfl,(B.trans e2).mono_mk (hM.out.cast ?_)⟩;have c7:m.n.toNat=j:=by have:m.n=(j:Int):=HN.out;omega
   unfold reachO;rw [if_pos ⟨HC.out,by omega,by omega⟩,Int.toNat_natCast,<-hE.out,c7]
def stCells (m:MZ) (f u t vc vp:Value) (gu:Nat):Array Value:=#[.int .i64 m.w,.int .i64 m.h,.int .i64 m.l,f,u,t,vc,vp,.map (some gu)]
structure AM (w:World) (ok:Nat->Prop) (g:Nat) (m:MZ) (ch:List Int) (ps:List (List Int)) (us:List Int) (f u t vc vp:Value) (gu:Nat):Prop where
 blk:zg w g 106 (stCells m f u t vc vp gu)
 okg:ok g
 maze:Ad w ok (.agg #[.int .i64 m.w,.int .i64 m.h,.int .i64 m.l,f,u,t]) m
 ch:zl w ok vc ch
 ps:zV w ok vp ps
 oku:ok gu
 us:zC w gu us
def Cq (w:World) (ok:Nat->Prop) (v:Value) (m:MZ) (ch:List Int) (ps:List (List Int)) (us:List Int):Prop:=
 ∃g f u t vc vp gu,v=.pointer (some ⟨g,0,none⟩)/\AM w ok g m ch ps us f u t vc vp gu
section
variable {w w':World} {ok ok':Nat->Prop} {v f u t vc vp:Value} {m:MZ} {ch us:List Int} {ps:List (List Int)} {g gu:Nat}
theorem AM.keep (h:AM w ok g m ch ps us f u t vc vp gu) (d:zZ ok w w'):AM w' ok g m ch ps us f u t vc vp gu:=
 ⟨(d g h.okg (za h.blk)).trans h.blk,h.okg,h.maze.keep d,h.ch.keep d,h.ps.keep d,h.oku,h.us.keep d h.oku⟩
theorem AM.weaken (h:AM w ok g m ch ps us f u t vc vp gu) (d:∀b,ok b->ok' b):AM w ok' g m ch ps us f u t vc vp gu:=
 ⟨h.blk,d _ h.okg,h.maze.weaken d,h.ch.weaken d,h.ps.weaken d,d _ h.oku,h.us⟩
theorem Cq.keep (h:Cq w ok v m ch ps us) (d:zZ ok w w'):Cq w' ok v m ch ps us:=by
 obtain ⟨g,f,u,t,vc,vp,gu,e,h⟩:=h;exact ⟨g,f,u,t,vc,vp,gu,e,h.keep d⟩
theorem Cq.weaken (h:Cq w ok v m ch ps us) (d:∀b,ok b->ok' b):Cq w ok' v m ch ps us:=by
 obtain ⟨g,f,u,t,vc,vp,gu,e,h⟩:=h;exact ⟨g,f,u,t,vc,vp,gu,e,h.weaken d⟩
theorem Cq.below (h:Cq w ok v m ch ps us) (d:Below w.heap.size w w'):Cq w' ok v m ch ps us:=h.keep (zZ.of_below d)
theorem AM.ext (h:AM w ok g m ch ps us f u t vc vp gu) (d:zc w w'):AM w' ok g m ch ps us f u t vc vp gu:=h.keep (zZ.of_below d)
theorem AM.rules (h:AM w ok g m ch ps us f u t vc vp gu):
  (∀W,zc w W->W.cell? ⟨g,0,none⟩=some (.int .i64 m.w))/\(∀W,zc w W->W.cell? ⟨g,1,none⟩=some (.int .i64 m.h))/\(∀W,zc w W->W.cell? ⟨g,2,none⟩=some (.int .i64 m.l))/\
  (∀W,zc w W->W.cell? ⟨g,3,none⟩=some f)/\(∀W,zc w W->W.cell? ⟨g,4,none⟩=some u)/\(∀W,zc w W->W.cell? ⟨g,5,none⟩=some t)/\
  (∀W,zc w W->W.cell? ⟨g,6,none⟩=some vc)/\(∀W,zc w W->W.cell? ⟨g,7,none⟩=some vp)/\(∀W,zc w W->W.cell? ⟨g,8,none⟩=some (.map (some gu))):=by
 have B:=h.blk;unfold zg stCells at B
 have d:∀k x,(#[Value.int .i64 m.w,.int .i64 m.h,.int .i64 m.l,f,u,t,vc,vp,.map (some gu)]:Array Value)[k]?=some x->w.cell? ⟨g,k,none⟩=some x:=by
  intro k x D;unfold World.cell?;simp only [B];exact D
 exact ⟨zc.rule (d 0 _ rfl),zc.rule (d 1 _ rfl),zc.rule (d 2 _ rfl),zc.rule (d 3 _ rfl),zc.rule (d 4 _ rfl),zc.rule (d 5 _ rfl),zc.rule (d 6 _ rfl),zc.rule (d 7 _ rfl),zc.rule (d 8 _ rfl)⟩
end
structure SOk (m:MZ) (ch:List Int) (ps:List (List Int)):Prop where
 good:zX m
 lens:Lens m
 pl:ps.length<=m.tasks.length
 pn:0<m.tasks.length->0<ps.length
 pp:∀p∈ps,p.length<=1000
 pr:∀p∈ps,∀x∈p,0<=x/\x<m.n
 cl:ch.length<=1000
def finB (m:MZ) (ps:List (List Int)):Bool:=
 match (ps.getD (ps.length - 1) []).getLast? with
 | none=>false
 | some x=>decide (x∈(m.tasks.getD (ps.length - 1) ([],[])).2)
def cmpB (m:MZ) (ps:List (List Int)):Bool:=decide (m.tasks.length=0) || (decide (ps.length=m.tasks.length) && finB m ps)
theorem Cx {w:World}:zc w w.drew:=(zc.refl w).drew
theorem AA {ok:Nat->Prop} {m:MZ} {ch us:List Int} {ps:List (List Int)} {g gu:Nat} {f u t vc vp:Value} (w:World) (h:AM w ok g m ch ps us f u t vc vp gu) (B:ps.length<=20000000000000):
  Calls Tryz.prog 92 #[.pointer (some ⟨g,0,none⟩)] w fun e w'=>e=.returned (.int .i64 ((ps.length:Int) - 1))/\w=w':=by
 obtain ⟨r0,r1,r2,r3,r4,r5,r6,r7,r8⟩:=h.rules;obtain ⟨vs,⟨Ap,cp,rfl,d,_⟩,_⟩:=h.ps;clear h;have D:=zc.refl w
 go_enter Tryz.func92,Tryz.ntmps92
 go_wp2;go_ret;exact ⟨rfl,rfl⟩
theorem Dr {ok:Nat->Prop} {m:MZ} {ch us:List Int} {ps:List (List Int)} {g gu:Nat} {f u t vc vp:Value} (w:World) (h:AM w ok g m ch ps us f u t vc vp gu) (so:SOk m ch ps) (hp:0<ps.length):
  Calls Tryz.prog 99 #[.pointer (some ⟨g,0,none⟩)] w fun e w'=>e=.returned (.bool (finB m ps))/\zB w w':=by
 obtain ⟨r0,r1,r2,r3,r4,r5,r6,r7,r8⟩:=h.rules;have d5:=h.ps;have d4:=h.maze;have HS:=zh h;clear h;obtain ⟨vs,⟨Ap,cp,rfl,e1,b5⟩,a7⟩:=d5;obtain ⟨fr',up',ts',he,_,_,a4⟩:=d4;injection he with he;injection he with he;simp only [List.cons.injEq,and_true,true_and] at he;obtain ⟨rfl,rfl,rfl⟩:=he;have d7:=a4;obtain ⟨vst,⟨At,ct,rfl,e2,_⟩,_⟩:=d7;have hk:ps.length - 1<ps.length:=by omega
 obtain ⟨b,off,up,rfl,_,D,b7⟩:=Bt b5 a7 hk hk;have E:ps.length - 1<m.tasks.length:=by have:=so.pl;omega
 obtain ⟨bt,offt,sn,u1,u2,rfl,_,c8,a5,a1,a8,a2⟩:=Cj a4 E;have b6:=so.lens;have e5:=so.pl;have f1:=so.good.tk;have M:=so.pp _ (DF hk);have b2:=(b6.tl _ (DF E)).2;clear b6 b5 a7 a4
 have B:finB m ps=match (ps[ps.length - 1]).getLast? with | none=>false | some x=>decide (x∈(m.tasks[ps.length - 1]).2):=by
  unfold finB;simp [hk,E]
 obtain ⟨p,b3⟩:=EH (ps[ps.length - 1]);obtain ⟨tk,U⟩:=EH (m.tasks[ps.length - 1]);rw [<-b3] at b7 M B;rw [<-U] at a8 a2 b2 B;clear b3 U a8;have c6:=zh a2;clear a2;have HF:=zh B;clear B;obtain ⟨Aq,cq,rfl,I,a3⟩:=b7;obtain ⟨k,b1⟩:∃k,ps.length - 1=k:=⟨_,rfl⟩;rw [b1] at D a5 a1 E;have b0:(ps.length:Int) - 1=(k:Int):=by omega
 have V:=zh b0;clear b0;have e4:(k:Int)<(ps.length:Int):=by omega
 have e3:(0:Int)<=(k:Int):=by omega
 have d9:(k:Int)<(m.tasks.length:Int):=by omega
 have rp:=zc.rule D;have rt:=zc.rule a1;clear D c8 a5 a1 b1 hk E;have hx:=zc.refl w;rcases List.eq_nil_or_concat p with rfl | ⟨q,x,rfl⟩
 ·have hz:([]:List Int).length=0:=rfl;rw [hz] at I
  go_enter Tryz.func99,Tryz.ntmps99
  go_wp2_with fail
  go_quiet ((go_at_call 92;refine (AA _ (HS.out.ext ((zc.refl w).drewN _)) (by omega)).mono ?_;rintro e w9 ⟨d,rfl⟩;rw [V.out] at d;exact ⟨d,⟨_,rfl⟩⟩))
  go_wp2_with fail
  go_quiet (fail)
  go_wp2;go_ret;exact ⟨zp (by rw [HF.out];rfl),(zB.refl w).more _ |>.more _⟩
 ·rw [List.concat_eq_append] at a3 M I HF;have b4:(q++[x]).length=q.length+1:=by simp
  rw [b4] at I M
  have J:∃bq offq,Aq=some ⟨bq,offq,none⟩/\w.cell? ⟨bq,offq+q.length,none⟩=some (.int .i64 x):=by
   obtain ⟨bq,offq,e,_,hc⟩:=AI a3 (k:=q.length) (by omega) (by omega);exact ⟨bq,offq,e,by rw [hc];simp⟩
  obtain ⟨bq,offq,rfl,J⟩:=J;have rx:=zc.rule J;clear J a3;have G:(q++[x]).getLast?=some x:=by simp
  rw [G] at HF;have O:(q.concat x).length=q.length+1:=by simp
  rw [O] at rp;clear G b4 O;generalize q.length=n at*;obtain ⟨N,hN⟩:=EH (n+1);rw [<-hN] at rp I M;have e6:(0:Int)<=(n:Int):=by omega
  have e7:(n:Int)<(N:Int):=by omega
  have d6:(N:Int) - 1=(n:Int):=by omega
  have e8:(0:Int)<(N:Int):=by omega
  have e9:0<N:=by omega
  have f0:IntKind.i64.wrap ((N:Int) - 1)=(n:Int):=by rw [DZ];omega
  clear hN d6
  go_enter Tryz.func99,Tryz.ntmps99
  go_wp2_with fail
  go_quiet ((go_at_call 92;refine (AA _ (HS.out.ext ((zc.refl w).drewN _)) (by omega)).mono ?_;rintro e w9 ⟨d,rfl⟩;rw [V.out] at d;exact ⟨d,⟨_,rfl⟩⟩))
  generalize b8:w.drewN nq=w1;have a6:zB w w1:=⟨nq,b8.symm⟩;have b9:zc w w1:=a6.below _;clear b8
  go_wp2_with fail
  go_quiet (first | ((go_at_call 92;refine (AA _ (HS.out.ext (b9.drewN _)) (by omega)).mono ?_;rintro e w9 ⟨d,rfl⟩;rw [V.out] at d;exact ⟨d,⟨_,rfl⟩⟩)) | ((go_at_call 56;refine (Ay x _ (c6.out.below (b9.drewN _)) (by omega)).mono ?_;rintro e w8 ⟨c9,rfl⟩;exact ⟨c9,⟨_,rfl⟩⟩)))
  go_wp2;go_ret;exact ⟨zp (by rw [HF.out]),a6.more _⟩
theorem BG {ok:Nat->Prop} {m:MZ} {ch us:List Int} {ps:List (List Int)} {g gu:Nat} {f u t vc vp:Value} (w:World) (h:AM w ok g m ch ps us f u t vc vp gu) (so:SOk m ch ps):
  Calls Tryz.prog 60 #[.pointer (some ⟨g,0,none⟩)] w fun e w'=>e=.returned (.bool (cmpB m ps))/\zB w w':=by
 obtain ⟨r0,r1,r2,r3,r4,r5,r6,r7,r8⟩:=h.rules;have a6:=h.ps;have a5:=h.maze;have HS:=zh h;clear h;obtain ⟨vs,⟨Ap,cp,rfl,O,a7⟩,a4⟩:=a6;obtain ⟨fr',up',ts',he,_,_,a9⟩:=a5;injection he with he;injection he with he;simp only [List.cons.injEq,and_true,true_and] at he;obtain ⟨rfl,rfl,rfl⟩:=he;obtain ⟨vst,⟨At,ct,rfl,U,_⟩,_⟩:=a9;have G:=so.pl;have D:=so.pn;have a8:=so.good.tk;have SO:=zh so;clear so;clear a7 a4;have hx:=zc.refl w;obtain ⟨cb,B⟩:=EH (cmpB m ps);have d:=zh B;rw [<-B];clear B;unfold cmpB at d;obtain ⟨T,M⟩:=EH m.tasks.length;obtain ⟨Pn,J⟩:=EH ps.length;rw [<-M] at r5 U d G D a8;rw [<-J] at r7 O d G D;have HT:=zh M;clear M;have HP:=zh J;clear J;by_cases h0:T=0
 ·have E:Hid (cb=true):=by have:=d.out;rw [DH h0] at this;simpa [Hid] using this
  have V:decide ((T:Int)=0)=true:=DH (by omega);have a1:((T:Int)==0)=true:=by rw [beq_iff_eq];omega
  clear h0 D
  go_enter Tryz.func60,Tryz.ntmps60
  go_wp2_with fail
  go_quiet (fail)
  go_wp2;go_ret;exact ⟨zp E.out.symm,(zB.refl w).more _⟩
 ·have V:decide ((T:Int)=0)=false:=DI (by omega);have a1:((T:Int)==0)=false:=by rw [DR];omega
  by_cases h1:Pn=T
  ·have E:Hid (cb=finB m ps):=by have:=d.out;rw [DI h0,DH h1] at this;simpa [Hid] using this
   have I:Hid (0<ps.length):=(by have:=HP.out;omega:0<ps.length);subst h1;have a2:((Pn:Int)==(Pn:Int))=true:=by rw [beq_iff_eq]
   clear h0
   go_enter Tryz.func60,Tryz.ntmps60
   go_wp2_with fail
   go_quiet ((go_at_call 99;refine (Dr _ (HS.out.ext ((zc.refl w).drewN _)) SO.out I.out).mono ?_;rintro e w9 ⟨a3,nd,rfl⟩;exact ⟨a3,⟨_,World.drewN_drewN _ _ _⟩⟩))
   go_wp2;go_ret;exact ⟨zp E.out.symm,(zB.refl w).more _⟩
  ·have E:Hid (cb=false):=by have:=d.out;rw [DI h0,DI h1] at this;simpa [Hid] using this
   have b2:decide ((Pn:Int)=(T:Int))=false:=DI (by omega);have a2:((Pn:Int)==(T:Int))=false:=by rw [DR];omega
   clear h1 h0
   go_enter Tryz.func60,Tryz.ntmps60
   go_wp2_with fail
   go_quiet (fail)
   go_wp2;go_ret;exact ⟨zp E.out.symm,(zB.refl w).more _⟩
theorem Tryz.infoInts:(Tryz.prog.info? 39).map (fun i=>(i.zero,i.size,i.bytes))=some (some (.slice none 0 0),1,24):=by kernel_rfl
def OwnL (w:World) (B:Nat) (v:Value) (vs:List Value):Prop:=w.ownsRow B 39 1 v vs.length vs
theorem ints_oneCell {w:World} {ok:Nat->Prop} {v:Value} (h:zl w ok v l):v.oneCell'=true:=by
 obtain ⟨A,c,rfl,_⟩:=h;rfl
theorem Cf {ok:Nat->Prop} {ops:Array Oper} {rest:List Oper} {Q:Exit->Act->World->Prop} (D:o.guard=none) (W:World) (s x:Operand)
  (ho:o.op=.call { callee:=.builtin .append,args:=#[s,x],argTypes:=#[22,22] }) (base:Nat) (l l2:List Value) (v u:Value) (hs:a.eval s=v) (hx:a.eval x=u)
  (B:OwnL W base v l) (hu:Bc W ok 1 u l2.length l2) (h1:∀u∈l2,u.oneCell'=true) (d:base<=W.heap.size) (hl:l.length+l2.length<=1000000000000)
  (h:∀v' w',OwnL w' base v' (l++l2)->Hid (W.grownBy w' v.ownBlock)->Hid (v'.ownBlock=v.ownBlock\/v'.ownBlock=some W.heap.size)->wpList Tryz.prog ops Q rest (a.put o.dst v') w'):wpList Tryz.prog ops Q (o :: rest) a W:=by
 refine wpList_plain D fun K U=>?_
 obtain ⟨i0,V,E,G,I⟩:=info_parts Tryz.infoInts;obtain ⟨v',w',hr,J,M,O⟩:=Dv (ok:=ok) W base 22 o.type 39 i0 (.slice none 0 0) 24 Tryz.underlying22 V E G I rfl v _ _ B u _ _ hu h1 (by unfold maxLen;omega) (by omega) d;unfold Oper.wp execOp;simp only [ho,resolve,invoke,builtin,Sem.run_bind,Sem.run_pure,Result.andThen_ok,List.map_toArray,List.map_cons,List.map_nil,hs,hx,hr];refine U _ _ (h v' w' ?_ M O);unfold OwnL;rw [DM];exact J
theorem slice_own {g c:Nat} (h:(Value.slice (some ⟨g,0,none⟩) n c).ownBlock=some k):g<=k:=by
 have h:some g=some k:=h;injection h with h;omega
theorem own_emptyL (W:World) (B:Nat) (d:B<=W.heap.size):OwnL (W.alloc (.cells #[] 39)) B (.slice (some ⟨W.heap.size,0,none⟩) 0 0) []:=
 ⟨rfl,.inr ⟨W.heap.size,0,#[],rfl,d,Ep W _,DE _,by decide,rfl,rfl⟩⟩
theorem nilEq (t e:TypeId) (ht:Tryz.prog.underlying t=some (.slice e)):∀(w:World) (a:Option Addr) (n c n' c':Nat),(binOp .eql t (.slice a n c) (.slice none n' c')).run Tryz.prog w=.ok (.bool a.isNone) w:=fun w a n c n' c'=>Lib.run_eql_slice_nil w _ _ a n c n' c' ht
theorem cloneI_calls {ok:Nat->Prop} {v:Value} (w:World) (h:zl w ok v l) (O:l.length<=100000000000):
  Calls Tryz.prog 39 #[v] w fun e w'=>∃v',e=.returned v'/\Mk w w' v' l:=by
 have H:=zh h;have E:=nilEq 39 3 Tryz.underlying39;obtain ⟨A,c,rfl,M,B⟩:=h;rcases A with _ | a
 ·have d:l=[]:=by
   rcases En l.length with h | h
   ·exact DV h
   ·obtain ⟨b,off,e,_⟩:=B.2 h;cases e
  subst d;clear B
  go_enter Tryz.func39,Tryz.ntmps39
  go_wp2_with fail
  go_ret;exact ⟨_,rfl,Mk.nil _⟩
 ·clear B;have U:=zc.refl w
  go_enter Tryz.func39,Tryz.ntmps39
  go_wp2_with (at_builtin;refine CD (ok:=ok) rfl _ _ _ rfl w.heap.size [] l _ _ rfl rfl (own_empty w w.heap.size (DE _)) (H.out.below ((zc.refl w).alloc _)) ?d1 ?d2 ?_)
  case d1=>simp
  case d2=>simp;omega
  intro v' w1 G D _;have I:Hid (Mk w w1 v' l):=⟨G,AU ((zc.refl w).alloc _) D (by simp) (fun k J=>slice_own J)⟩;clear G D
  go_wp2_with fail
  go_ret;exact ⟨_,rfl,I.out⟩
theorem cloneL_calls {ok:Nat->Prop} {v:Value} {vs:List Value} (w:World) (h:Bc w ok 1 v vs.length vs) (h1:∀u∈vs,u.oneCell'=true) (V:vs.length<=100000000000):
  Calls Tryz.prog 98 #[v] w fun e w'=>∃v',e=.returned v'/\zc w w'/\OwnL w' w.heap.size v' vs:=by
 have H:=zh h;have I:=zh h1;clear h1;have E:=nilEq 22 39 Tryz.underlying22;obtain ⟨A,c,rfl,U,B⟩:=h;rcases A with _ | a
 ·have d:vs=[]:=by
   rcases En vs.length with h | h
   ·exact DV h
   ·obtain ⟨b,off,e,_⟩:=B.2 h;cases e
  subst d;clear B
  go_enter Tryz.func98,Tryz.ntmps98
  go_wp2_with fail
  go_ret;exact ⟨_,rfl,zc.refl _,World.ownsRow_nil _ _ _ _⟩
 ·clear B;have hx:=zc.refl w
  go_enter Tryz.func98,Tryz.ntmps98
  go_wp2_with (at_builtin;refine Cf (ok:=ok) rfl _ _ _ rfl w.heap.size [] vs _ _ rfl rfl (own_emptyL w w.heap.size (DE _)) (H.out.below ((zc.refl w).alloc _)) I.out ?d1 ?d2 ?_)
  case d1=>simp
  case d2=>simp;omega
  intro v' w1 G D _;have M:zc w w1:=AU ((zc.refl w).alloc _) D (by simp) (fun k O=>slice_own O);have J:=zh G;clear G D
  go_wp2_with fail
  go_ret;exact ⟨_,rfl,M,J.out⟩
def ps0 (m:MZ):List (List Int):=if m.tasks.length=0 then [] else [[]]
theorem zg.set {w:World} {g:Nat} {t:TypeId} (h:zg w g t cs) (v:Value):zg (w.setCell ⟨g,k,none⟩ v) g t (cs.setIfInBounds k v):=by
 unfold zg at h⊢;simp [World.setCell,Array.getElem?_modify,h]
theorem zg.setOther {w:World} {g:Nat} {t:TypeId} (h:zg w g t cs) {a:Addr} (d:g≠a.block) (v:Value):zg (w.setCell a v) g t cs:=
 (DN w a v g d).trans h
theorem zg.ext {w w':World} {g:Nat} {t:TypeId} (h:zg w g t cs) (d:zc w w'):zg w' g t cs:=(d.block g (za h)).trans h
theorem zg.cell {w:World} {g k:Nat} {t:TypeId} {cs:Array Value} {v:Value} (h:zg w g t cs) (d:cs[k]?=some v):w.cell? ⟨g,k,none⟩=some v:=by
 unfold zg at h;unfold World.cell?;simp only [h];exact d
theorem zg.frozen {w:World} {g:Nat} {t:TypeId} {cs:Array Value} (h:zg w g t cs) (k:Nat):w.frozen? ⟨g,k,none⟩=false:=by
 unfold zg at h;unfold World.frozen?;simp [h]
theorem zg.new (w:World) (cs:Array Value) (t:TypeId) {g:Nat} (d:g=w.heap.size):zg (w.alloc (.cells cs t)) g t cs:=by
 subst d;exact Ep _ _
theorem AM.make {ok ok':Nat->Prop} {w W:World} {g gu:Nat} {m:MZ} {ch us:List Int} {ps:List (List Int)} {f u t vc vp:Value} (G:zc w W) (hm:Ad w ok (.agg #[.int .i64 m.w,.int .i64 m.h,.int .i64 m.l,f,u,t]) m)
  (M:∀b,ok b->ok' b) (I:zg W g 106 (stCells m f u t vc vp gu)) (J:ok' g) (d:zl W ok' vc ch) (D:zV W ok' vp ps) (B:ok' gu) (E:zC W gu us):AM W ok' g m ch ps us f u t vc vp gu:=
 ⟨I,J,(hm.below G).weaken M,d,D,B,E⟩
theorem zV.nil (w:World) (ok:Nat->Prop):zV w ok (.slice none 0 0) []:=⟨[],⟨none,0,rfl,DE _,AD.nil _ _ _ _⟩,by simp⟩
theorem AD.block {w:World} {ok:Nat->Prop} {g:Nat} {t:TypeId} (h:zg w g t cs) (d:ok g) (B:cs.size=n):AD w ok 1 (some ⟨g,0,none⟩) n cs.toList:=
 ⟨by simp [B],fun _=>⟨g,0,rfl,d,fun j u D=>by rw [Nat.zero_add];exact h.cell (by simpa using D)⟩⟩
theorem begin_calls {ok:Nat->Prop} {v:Value} {m:MZ} (w:World) (hm:Ad w ok v m) (hl:m.tasks.length<=100000):
  Calls Tryz.prog 55 #[v] w fun e w'=>∃v',e=.returned v'/\zc w w'/\Cq w' (fun b=>ok b\/w.heap.size<=b) v' m [] (ps0 m) []:=by
 have B:=hm;obtain ⟨vfr,vup,vts,rfl,_,_,a5⟩:=hm;obtain ⟨vst,⟨At,ct,rfl,a9,_⟩,_⟩:=a5;have b0:=@run_makeMap Tryz.prog;by_cases h0:m.tasks.length=0
 ·have d:ps0 m=[]:=by unfold ps0;rw [if_pos h0]
  rw [h0] at B;have E:=zh B;clear B;have U:=zh d;clear d
  go_enter Tryz.func55,Tryz.ntmps55
  go_wp2_with fail
  go_ret;rw [U.out];have D:zc w (w.alloc (.cells #[.int .i64 m.w,.int .i64 m.h,.int .i64 m.l,vfr,vup,.slice At 0 ct] 29)):=(zc.refl w).alloc _;refine ⟨_,rfl,(D.alloc _).alloc _,w.heap.size+2,_,_,_,_,_,w.heap.size+1,rfl,AM.make ((D.alloc _).alloc _) E.out (fun _ h=>.inl h) (zg.new _ _ _ (by simp)) (.inr (by omega)) (zl.nil _ _) (zV.nil _ _) (.inr (by omega)) ?_⟩
  have h1:zC ((w.alloc (.cells #[.int .i64 m.w,.int .i64 m.h,.int .i64 m.l,vfr,vup,.slice At 0 ct] 29)).alloc (.map #[] 0)) (w.heap.size+1) []:=by
   have:=zC.new (w.alloc (.cells #[.int .i64 m.w,.int .i64 m.h,.int .i64 m.l,vfr,vup,.slice At 0 ct] 29));simpa using this
  exact h1.below ((zc.refl _).alloc _)
 ·have d:ps0 m=[[]]:=by unfold ps0;rw [if_neg h0]
  have E:=zh B;clear B;have U:=zh d;clear d
  go_enter Tryz.func55,Tryz.ntmps55
  go_wp2_with fail
  go_ret;rw [U.out];generalize M:w.alloc (.cells #[.int .i64 m.w,.int .i64 m.h,.int .i64 m.l,vfr,vup,.slice At m.tasks.length ct] 29)=w1;have D:zc w w1:=by rw [<-M];exact (zc.refl w).alloc _
  have O:w1.heap.size=w.heap.size+1:=by rw [<-M];simp
  have h1:zC (w1.alloc (.map #[] 0)) (w.heap.size+1) []:=by rw [<-O];exact zC.new w1
  have a1:zc w (w1.alloc (.map #[] 0)):=D.alloc _;generalize a6:w1.alloc (.map #[] 0)=w2 at*;have a8:w2.heap.size=w.heap.size+2:=by rw [<-a6];simp [O]
  generalize G:w2.alloc (.cells #[.int .i64 m.w,.int .i64 m.h,.int .i64 m.l,vfr,vup,.slice At m.tasks.length ct,.slice none 0 0,.slice (some ⟨w.heap.size+1+1+1,0,none⟩) 1 1,.map (some (w.heap.size+1))] 106)=w3;have a2:zg w3 (w.heap.size+2) 106 (stCells m vfr vup (.slice At m.tasks.length ct) (.slice none 0 0) (.slice (some ⟨w.heap.size+3,0,none⟩) 1 1) (w.heap.size+1)):=by rw [<-G];exact zg.new _ _ _ (by omega)
  have b1:w3.heap.size=w.heap.size+3:=by rw [<-G];simp [a8]
  have V:zc w2 w3:=by rw [<-G];exact (zc.refl _).alloc _
  have I:=V.alloc (.cells #[.slice none 0 0] 39);have J:=a1.trans I;have a3:=a2.alloc (.cells #[.slice none 0 0] 39);have a4:zg (w3.alloc (.cells #[.slice none 0 0] 39)) (w.heap.size+3) 39 #[.slice none 0 0]:=zg.new _ _ _ (by omega);refine ⟨_,rfl,J,w.heap.size+2,_,_,_,_,_,w.heap.size+1,rfl,AM.make J E.out (fun _ h=>.inl h) a3 (.inr (by omega)) (zl.nil _ _) ?_ (.inr (by omega)) (h1.below I)⟩
  ·exact ⟨[.slice none 0 0],⟨some ⟨w.heap.size+3,0,none⟩,1,rfl,DE _,AD.block a4 (.inr (by omega)) rfl⟩,fun i x hx=>by
    match i,hx with
    | 0,hx=>
     have:x=[]:=by simpa using hx.symm
     subst this;exact ⟨_,rfl,zl.nil _ _⟩⟩
end
section
open Go.RowKit Go.Shelf
attribute [local go_sem] Oper.semAt_some
theorem values1_in (F:Fence) (n:Nat) (h7:F.fn 129) (a2:F.round=none) (hn:1<=n) (l Bs n₀:Nat) (A:Option Addr) (cap:Nat) (zs:List Int) (a5:zs.length<=1000000000000) (J Jx:List Int->World->Prop)
  (hY:∀pre x W,J pre W->pre.length<zs.length->YieldAt F (n - 1) Tryz.prog l #[.int .i64 x] W fun e W'=>
   (e=.returned (.bool true)/\J (pre++[x]) W'/\Below n₀ W W')\/(e=.returned (.bool false)/\Jx (pre++[x]) W'))
  (W:World) (b0:W.cell? ⟨Bs,0,none⟩=some (.slice A zs.length cap)) (hc:∀(j:Nat) (hj:j<zs.length),∃b off,A=some ⟨b,off,none⟩/\b<n₀/\W.cell? ⟨b,off+j,none⟩=some (.int .i64 (zs[j]))) (h0:J [] W):
  CallsIn F n Tryz.prog 129 #[.func (.yield l) #[] #[],.pointer (some ⟨Bs,0,none⟩)] W fun e W'=>(∃v,e=.returned v)/\
   ((∃ys,ys=zs/\J ys W')\/(∃pre,pre <+: zs/\Jx pre W')):=by
 have HC:=zh hc;clear hc;refine callsIn_of_wp Tryz.func129 rfl h7 ?_ a2;simp only [Tryz.ntmps129,List.size_toArray,EF,EG,Nat.reduceAdd,Nat.reduceSub,Array.replicate_succ,Array.replicate_zero,List.push_toArray,List.append_toArray,List.nil_append,List.cons_append]
 gi_wp2
 gi_loopw [7] (fun i wr=>∃k:Nat,k<=zs.length/\i=.int .i64 k/\Hid (J (zs.take k) wr)/\Hid (Below n₀ W wr))
  (fun i _=>zs.length - (intOf i).toNat)
 case atStart=>exact ⟨0,DS _,rfl,h0,Below.refl _ _⟩
 case round=>
  obtain ⟨k,hk,rfl,I,U⟩:=hrel;by_cases O:k<zs.length
  ·obtain ⟨b,off,rfl,hb,B⟩:=HC.out k O;have a1:wr.cell? ⟨b,off+k,none⟩=some (.int .i64 (zs[k])):=(U.out.cell (p:=⟨b,off+k,none⟩) hb).trans B;clear B;have E:=zh (DL O);obtain ⟨x,hx⟩:=EH (zs[k]);rw [<-hx] at a1 E;clear hx;obtain ⟨fn,tmps,assign,body,hy,hR⟩:=hY _ x wr I.out (by simp;omega);have HR:=zh hR;clear hR
   gi_wp2
   refine HR.out.mono ?_;rintro e W3 (⟨rfl,G,M⟩ | ⟨rfl,d⟩)
   ·have D:=zh G;clear G;have V:=zh M;clear M
    gi_wp2
    go_roundw
    case rel=>exact ⟨k+1,by omega,by go_num,by rw [E.out];exact D,U.out.trans V.out⟩
    case measure=>simp [intOf];omega
   ·have D:=zh d;clear d
    gi_wp2
    refine Ev (results_none rfl _ _ _) rfl ?_;exact ⟨⟨_,rfl⟩,.inr ⟨_,List.take_prefix (k+1) zs,by rw [E.out];exact D.out⟩⟩
  ·obtain rfl:k=zs.length:=by omega
   gi_wp2
   go_end0
   exact ⟨⟨_,rfl⟩,.inl ⟨_,rfl,by have:=I.out;rwa [DP] at this⟩⟩
theorem values_stops {ok:Nat->Prop} {v:Value} (Bs n₀ n:Nat) (hn:1<=n) (w:World) (E:Bs<w.heap.size) (hn₀:n₀<=w.heap.size) (V:w.cell? ⟨Bs,0,none⟩=some v) (h:zl w ok v l) (G:∀b,ok b->b<w.heap.size->b<n₀) (B:l.length<=1000000000000):
  SeqStopsK Fence.wide n Tryz.prog 129 #[.pointer (some ⟨Bs,0,none⟩)] (fun x:Int=>#[Value.int .i64 x]) (Below n₀) (fun ys=>ys=l) (fun pre=>pre <+: l) l.length w:=fun lb J Jx W hW _ _ O h0=>by
 obtain ⟨A,cap,rfl,I,hr⟩:=h;refine values1_in Fence.wide n trivial rfl hn lb Bs n₀ A cap l B J Jx O W ((hW.cell (p:=⟨Bs,0,none⟩) E).trans V) (fun j M=>?_) h0;obtain ⟨b,off,e,U,d⟩:=AI hr M M;have D:=zn d;exact ⟨b,off,e,G b U D,(hW.cell (p:=⟨b,off+j,none⟩) D).trans d⟩
theorem zl.bound {w:World} {ok:Nat->Prop} {v:Value} (h:zl w ok v l):zl w (fun b=>ok b/\b<w.heap.size) v l:=by
 obtain ⟨A,c,e,G,I,d⟩:=h;refine ⟨A,c,e,G,I,fun D=>?_⟩;obtain ⟨b,off,e',E,B⟩:=d D;have h0:0<(l.map (Value.int .i64)).length:=by simpa using D
 exact ⟨b,off,e',⟨E,zn (B 0 _ (DC h0))⟩,B⟩
theorem appendSeq_calls {ok:Nat->Prop} {v:Value} (Bs:Nat) (w:World) (V:w.cell? ⟨Bs,0,none⟩=some v) (h:zl w ok v l) (O:l.length<=1000000000000):
  Calls Tryz.prog 148 #[.slice none 0 0,.func (.func 129) #[] #[.pointer (some ⟨Bs,0,none⟩)]] w fun e w'=>∃v',e=.returned v'/\Mk w w' v' l:=by
 refine (callsIn_wide (n:=6)).1 ?_;obtain ⟨i0,hi,a5,a6,a7⟩:=info_parts Tryz.infoInt;have HI:=zh h;clear h;have a9:=zn V;refine callsIn_of_wp_marks Tryz.func148 rfl trivial ?_ rfl;simp only [Tryz.ntmps148,List.size_toArray,EF,EG,Nat.reduceAdd,Nat.reduceSub,Array.replicate_succ,Array.replicate_zero,List.push_toArray,List.append_toArray,List.nil_append,List.cons_append]
 gi_wp2
 have bO:=Boxed.new w 39 (.slice none 0 0);have I:Below w.heap.size w (w.alloc (.cells #[.slice none 0 0] 39)):=(Below.refl _ w).alloc (DE _) _
 refine wpIn_rangeFunc_ownG (F:=Fence.wide) rfl (by omega) (gf:=129) (lb:=#[.pointer (some ⟨Bs,0,none⟩)]) rfl trivial (enters_of Tryz.func129 (by kernel_rfl) rfl)
  (values_stops (ok:=fun b=>ok b/\b<w.heap.size) Bs w.heap.size _ (by omega) _ (by simp;omega) (by simp) ((zc.refl w).alloc _ |>.cell V) (HI.out.bound.below I) (fun b hb _=>hb.2) O) belowK_t (belowK_b (by simp)) (Below.refl _ _) (fun _=>rfl)
  (fun pre W=>(∃v,Boxed W w.heap.size 39 v/\W.ownsRow w.heap.size 3 1 v pre.length (pre.map (Value.int .i64))/\True)/\Below w.heap.size w W)
  (fun _ _ _=>False)
  (OwnFrom.and (Own.from (holdsRow_own w.heap.size w.heap.size 39 3 1 (fun pre:List Int=>pre.length) (fun pre:List Int=>pre.map (Value.int .i64)) (fun pre v=>True)) _) (ownFrom_below (DE _) (by simp)))
  (fun _ _ _ _ _ hs _ _=>hs)
  ⟨⟨_,bO,World.ownsRow_nil _ _ _ _,trivial⟩,I⟩
  (fun x=>{ tmps:=#[.slice none 0 0,.func (.func 129) #[] #[.pointer (some ⟨Bs,0,none⟩)],.pointer (some ⟨w.heap.size,0,none⟩),undef,.slice none 0 0,.int .i64 x,.func (.func 129) #[] #[.pointer (some ⟨Bs,0,none⟩)],.int .i64 x,undef,undef,undef,undef,undef],defers:=[] }) ?assign ?body ?done ?stop
 case assign=>
  intro l x W K J
  gi_wp2
  exact J
 case body=>
  rintro lb pre x W ⟨⟨v,hv,d,_⟩,G⟩ b5;have V:=hv.cell
  gi_wp2_with (gi_at_builtin;refine wpListIn_append_own _ rfl _ _ 39 rfl w.heap.size 3 i0 (.int .i64 0) 1 8 Tryz.underlying39 hi a5 a6 a7 rfl (by decide) _ _ _ rfl (d.alloc _) ⟨W.heap.size,0,none⟩ 1 1 [.int .i64 x] rfl rfl (cell_one_new _ _ _) (by simp [Value.oneCell']) (by unfold maxLen;omega) (by omega) (by have:=G.size;simp;omega) ?_;intro v' w1 B E _;obtain ⟨g',cap',rfl⟩:=ownsRow_succ B;obtain ⟨U,a4,a3,a2,M⟩:=hv.appended (by decide) d G.size (DE _) B E;have b2:=U.cell;have b3:=U.frozen)
  exact ⟨a2.from _,M,⟨_,a4,by simpa using a3,trivial⟩,G.trans M⟩
 case done=>
  rintro D ys W hD rfl ⟨⟨v,hv,d,_⟩,G⟩ J;have V:=hv.cell
  gi_wp2
  refine ⟨by simp,.inl ⟨_,_,rfl,run_takeDeferred J,?_⟩⟩;exact ⟨_,results_tmp rfl _ _ _,v,rfl,ownsRow_putObj d _ J rfl,G.trans (belowK_b (w:=w) (DE _) W D _ _ (by simp at hD;omega) J rfl rfl)⟩
 case stop=>
  rintro D c pre W _ _ h _;exact h.elim
end
section
open Go.RowKit
section
variable {P:Program} {ops:Array Oper} {Q:Exit->Act->World->Prop} {md:Region.Mode} {S:World->Prop}
def Bz (ops:Array Oper) (j:Nat):Option Tmp:=(ops[j]?).bind (·.dst)
def zF (ops:Array Oper) (v:Nat->Value):List Nat->Act->Act
 | [],a=>a
 | j :: js,a=>zF ops v js (a.put (Bz ops j) (v j))
def Ag {α:Type} (f:Nat->α) (j:Nat) (x:α):Nat->α:=fun k=>if k=j then x else f k
theorem CV {α:Type} (f:Nat->α) (j:Nat) (x:α):Ag f j x j=x:=by simp [Ag]
theorem upd_ne {α:Type} (f:Nat->α) {j:Nat} (x:α) (h:k≠j):Ag f j x k=f k:=by simp [Ag,h]
theorem put_put (a:Act) (d:Option Tmp) (x y:Value):(a.put d x).put d y=a.put d y:=by
 cases d with
 | none=>rfl
 | some d=>simp [Act.put]
theorem put_comm (a:Act) {d d':Option Tmp} (x y:Value) (h:d=d'->d=none):(a.put d x).put d' y=(a.put d' y).put d x:=by
 cases d with
 | none=>rfl
 | some d=>
  cases d' with
  | none=>rfl
  | some d'=>
   have B:d≠d':=fun e=>by subst e;exact absurd (h rfl) (by simp)
   simp only [Act.put];rw [Array.setIfInBounds_comm _ _ B]
theorem putAll_put (v:Nat->Value) (d:Option Tmp) (x:Value):∀(js:List Nat) (a:Act),(∀k∈js,Bz ops k=d->d=none)->(zF ops v js a).put d x=zF ops v js (a.put d x)
 | [],_,_=>rfl
 | k :: js,a,h=>by
  simp only [zF];rw [putAll_put v d x js _ (fun k' B=>h k' (DY _ B)),put_comm a _ _ (fun e=>by rw [e];exact h k (Eo ..) e)]
theorem putAll_upd (v:Nat->Value) (j:Nat) (x:Value):∀(js:List Nat) (a:Act),j∉js->zF ops (Ag v j x) js a=zF ops v js a
 | [],_,_=>rfl
 | k :: js,a,h=>by
  simp only [zF];rw [upd_ne v x (fun e=>h (by simp [e])),putAll_upd v j x js _ (fun d=>h (DY _ d))]
def Dist (ops:Array Oper) (js:List Nat):Prop:=∀j∈js,∀k∈js,j≠k->Bz ops j=Bz ops k->Bz ops k=none
theorem putAll_set (v:Nat->Value) (j:Nat) (x:Value):∀(js:List Nat) (a:Act),js.Nodup->Dist ops js->j∈js->(zF ops v js a).put (Bz ops j) x=zF ops (Ag v j x) js a
 | [],_,_,_,h=>by cases h
 | k :: js,a,M,D,h=>by
  obtain ⟨E,B⟩:=List.nodup_cons.1 M;simp only [zF];by_cases e:j=k
  ·subst e;rw [CV,putAll_upd v j x js _ E,putAll_put v _ x js _ (fun k' d he=>D k' (DY _ d) j (Eo ..) (fun e=>E (e ▸ d)) he),put_put]
  ·have J:j∈js:=by
    rcases Er.1 h with h | h
    ·exact absurd h e
    ·exact h
   rw [upd_ne v x (fun h=>e h.symm)];exact putAll_set v j x js _ B (fun a G b I=>D a (DY _ G) b (DY _ I)) J
theorem put_self (a:Act) (d:Option Tmp):∃x,a.put d x=a:=by
 cases d with
 | none=>exact ⟨undef,rfl⟩
 | some d=>
  refine ⟨a.tmps.getD d undef,?_⟩;obtain ⟨t,ds⟩:=a;simp only [Act.put,Act.mk.injEq,and_true];apply Array.ext_getElem?;intro i;rw [Array.getElem?_setIfInBounds]
  split
  ·rename_i h
   subst h
   split
   ·rename_i h;simp [Array.getD,h]
   ·rename_i h;rw [Array.getElem?_eq_none (by omega)]
  ·rfl
theorem Du (a:Act):∀(js:List Nat),js.Nodup->∃v,zF ops v js a=a
 | [],_=>⟨fun _=>undef,rfl⟩
 | j :: js,h=>by
  obtain ⟨d,B⟩:=List.nodup_cons.1 h;obtain ⟨v,D⟩:=Du a js B;obtain ⟨x,E⟩:=put_self a (Bz ops j);refine ⟨Ag v j x,?_⟩;simp only [zF];rw [CV,putAll_upd v j x js _ d,E,D]
def BT (md:Region.Mode) (ops:Array Oper) (js:List Nat):Bool:=
 ((List.range ops.size).all fun j=>match ops[j]? with | none=>false | some o=>o.after.toList.all fun e=>!Region.binds md e || decide (e.on<j)) &&
 decide js.Nodup && (js.all fun j=>decide (j<ops.size)) && (js.all fun j=>js.all fun k=>decide (j=k) || !(decide (Bz ops j=Bz ops k)) || decide (Bz ops k=none))
def leftB (ops:Array Oper) (listed:Array Bool) (js:List Nat):Bool:=decide (listed.size=ops.size) && (List.range listed.size).all fun k=>listed.getD k true || decide (k∈js)
def StepTo (ops:Array Oper) (S:World->Prop) (J:(Nat->Bool)->(Nat->Value)->World->Prop) (js:List Nat) (a0:Act) (j:Nat) (e:Nat->Bool) (v:Nat->Value) (K:Act->World->Prop):Prop:=
 ∀a' x w',(zF ops v js a0).put (Bz ops j) x=a'->S w'->J (Ag e j true) (Ag v j x) w'->K a' w'
theorem wpAnyH_inv {J:(Nat->Bool)->(Nat->Value)->World->Prop} (hB:BT md ops js=true)
  (step:∀j∈js,∀e v w,J e v w->S w->e j=false->(∀o,ops[j]?=some o->∀d∈o.after,Region.binds md d=true->e d.on=true)->∀o,ops[j]?=some o->∀K:Act->World->Prop,Hid (StepTo ops S J js a0 j e v K)->
   if Region.wanted o (yielded ops (zF ops v js a0).tmps)=true then Oper.wp P o (zF ops v js a0) w K Q else K ((zF ops v js a0).put o.dst undef) w)
  (fin:∀v w,J (fun _=>true) v w->S w->Q .normal (zF ops v js a0) w):
  ∀(fuel:Nat) (listed:Array Bool) (v:Nat->Value) (w:World),listed.size=ops.size->(∀k,listed.getD k true=false->k∈js)->(js.filter fun k=>!listed.getD k true).length<=fuel->S w->J (fun k=>listed.getD k true) v w->
   wpAnyH P md ops Q S fuel listed (zF ops v js a0) w:=by
 unfold BT at hB;simp only [DQ,EE,DO,EC,Bool.not_eq_true',Eb] at hB;obtain ⟨⟨⟨h1,h2⟩,h3⟩,h4⟩:=hB
 have hD:Dist ops js:=fun j hj k M b6 he=>by
  rcases h4 j hj k M with (h | h) | h
  ·exact absurd h b6
  ·exact absurd he h
  ·exact h
 have a1:∀listed:Array Bool,(∀k,listed.getD k true=true)->(fun k=>listed.getD k true)=fun _=>true:=fun listed h=>funext h
 have U:∀listed:Array Bool,listed.size=ops.size->(∀k,listed.getD k true=false->k∈js)->Region.ready md ops listed=[]->∀k,listed.getD k true=true:=by
  intro listed V B hr
  have M:∀n k,k<n->listed.getD k true=true:=by
   intro n
   induction n with
   | zero=>intro k h;omega
   | succ n ih=>
    intro k d9
    cases hv:listed.getD k true with
    | true=>rfl
    | false=>
     exfalso
     have G:=h3 k (B k hv)
     have a2:k∈Region.ready md ops listed:=mem_ready.2 ⟨hv,ops[k],Array.getElem?_eq_getElem G,fun e he hb=>by
      have:=h1 k (EB.2 G);rw [Array.getElem?_eq_getElem G] at this;have h5:=(EE.1 this) e (by simpa using he);simp only [EC,Bool.not_eq_true',DO] at h5
      have h6:e.on<k:=by
       rcases h5 with h5 | h5
       ·rw [hb] at h5;cases h5
       ·exact h5
      have h7:=ih e.on (by omega);have h8:e.on<listed.size:=by omega
      simp only [Array.getD,h8,dif_pos] at h7⊢;exact h7⟩
     rw [hr] at a2;cases a2
  exact fun k=>M (k+1) k (by omega)
 intro fuel
 induction fuel with
 | zero=>
  intro listed v w V B hc hS hJ
  have hf:∀k,listed.getD k true=true:=fun k=>by
   cases hv:listed.getD k true with
   | true=>rfl
   | false=>
    exfalso
    have:k∈js.filter fun k=>!listed.getD k true:=Ez.2 ⟨B k hv,by rw [hv];rfl⟩
    rw [DV (Nat.le_zero.1 hc)] at this;cases this
  refine ⟨?_,fin v w (by rw [<-a1 listed hf];exact hJ) hS⟩;apply List.eq_nil_iff_forall_not_mem.2;intro j hj;have:=(mem_ready.1 hj).1;rw [hf j] at this;cases this
 | succ fuel ih=>
  intro listed v w V B hc hS hJ;refine ⟨fun hr=>fin v w (by rw [<-a1 listed (U listed V B hr)];exact hJ) hS,fun i hi=>?_⟩;obtain ⟨a4,o,ho,a3⟩:=mem_ready.1 hi;have E:=B i a4;refine wpOp_step ho fun K' hK=>?_
  have G:i<listed.size:=by have:=h3 i E;omega
  refine step i E (fun k=>listed.getD k true) v w hJ hS a4 (fun o' O d hd hb=>?_) o ho K' fun a' x w' ha a7 a6=>?_
  ·rw [ho] at O;injection O with O;subst O;have h9:=a3 d hd hb;by_cases a5:d.on<listed.size
   ·simp only [Array.getD,a5,dif_pos] at h9⊢;exact h9
   ·simp only [Array.getD,a5,dif_neg,not_false_eq_true] at h9;cases h9
  ·refine hK _ _ ⟨a7,?_⟩
   have I:Ag (fun k=>listed.getD k true) i true=fun k=>(listed.setIfInBounds i true).getD k true:=by
    funext k;by_cases M:k=i
    ·subst M;rw [CV];simp [Array.getD,G]
    ·rw [upd_ne _ _ M];simp only [Array.getD,Array.size_setIfInBounds]
     split
     ·rename_i h
      show listed[k]=(listed.setIfInBounds i true)[k]'(by simpa using h);rw [Array.getElem_setIfInBounds,if_neg (Ne.symm M)]
     ·rfl
   rw [I] at a6;rw [<-ha,putAll_set v i x js a0 h2 hD E];refine ih (listed.setIfInBounds i true) (Ag v i x) w' (by simpa using V) (fun k M=>?_) ?_ a7 a6
   ·by_cases D:k=i
    ·rw [D];exact E
    ·have:=congrFun I k;rw [upd_ne _ _ D] at this;exact B k (this.trans M)
   ·have b4:(js.filter fun k=>!(listed.setIfInBounds i true).getD k true)=(js.filter fun k=>!listed.getD k true).erase i:=by
     rw [List.Nodup.erase_eq_filter (h2.filter _),List.filter_filter];apply List.filter_congr;intro k M;have:=congrFun I k;rw [<-this];by_cases D:k=i
     ·subst D;simp [CV]
     ·rw [upd_ne _ _ D];simp [D]
    rw [b4,List.length_erase_of_mem (Ez.2 ⟨E,by show (!listed.getD i true)=true;rw [a4];rfl⟩)];omega
theorem wpAnyH_by_inv (js:List Nat) (J:(Nat->Bool)->(Nat->Value)->World->Prop) {w:World} (D:BT md ops js=true) (hL:leftB ops listed js=true) (hf:js.length<=fuel) (I:S w)
  (init:∀e v,(∀j∈js,e j=false)->J e v w)
  (E:(js.all fun j=>!listed.getD j true)=true)
  (step:∀j∈js,∀e v w,J e v w->S w->e j=false->(∀o,ops[j]?=some o->∀d∈o.after,Region.binds md d=true->e d.on=true)->∀o,ops[j]?=some o->∀K:Act->World->Prop,Hid (StepTo ops S J js a0 j e v K)->
   if Region.wanted o (yielded ops (zF ops v js a0).tmps)=true then Oper.wp P o (zF ops v js a0) w K Q else K ((zF ops v js a0).put o.dst undef) w)
  (fin:∀v w,J (fun _=>true) v w->S w->Q .normal (zF ops v js a0) w):wpAnyH P md ops Q S fuel listed a0 w:=by
 unfold leftB at hL;simp only [DQ,EE,DO,EC] at hL
 have O:js.Nodup:=by
  unfold BT at D;simp only [DQ,DO] at D;exact D.1.1.2
 obtain ⟨v,U⟩:=Du (ops:=ops) a0 js O
 have h:=wpAnyH_inv D step fin fuel listed v w hL.1 (fun k G=>by
  by_cases B:k<listed.size
  ·rcases hL.2 k (EB.2 B) with h | h
   ·rw [G] at h;cases h
   ·exact h
  ·simp [Array.getD,B] at G) (DG (Eg _ _) hf) I (init _ _ (fun j M=>by
   have:=EE.1 E j M;simpa using this))
 rwa [U] at h
end
def noDeferB (ops:Array Oper):Bool:=ops.toList.all fun o=>match o.op with | .defer _=>false | _=>true
theorem operIn_of {P:Program} {w:World} {Q:Exit->Act->World->Prop} (l n:Nat) (B:∀c,o.op≠.defer c) (h:o.wp P a w K Q):o.wpIn (Fence.wide.inRound l) n P a w K Q:=by
 have d:(Fence.wide.inRound l).depth.isSome=true->1<=n:=fun h=>absurd h (by simp [Fence.wide])
 refine ⟨fun f _=>trivial,?_⟩;rw [Oper.semAt_eq _ _ _ B];unfold Oper.wp at h;generalize (execOp a.eval o).run P w=r at*
 cases r with
 | ok x w'=>
  cases x with
  | enter f args=>exact ⟨d,(CallsIn.inRound l (callsIn_wide.2 h)).mono (fun e w'' he=>by cases e <;> exact he)⟩
  | row row args=>exact ⟨d,fun c cs _=>let ⟨v,w'',r,s⟩:=h c cs;⟨v,w'',r,stepsIn_wide.2 s⟩⟩
  | _=>first | exact h | exact (h:False).elim
 | halt x w'=>cases x <;> exact h
section
variable {P:Program} {ops:Array Oper} {Q:Exit->Act->World->Prop} {md:Region.Mode} {S:World->Prop}
theorem wpOpIn_step (l n:Nat) (B:noDeferB ops=true) {i:Nat} {w:World} (D:ops[i]?=some o)
  (h:∀K':Act->World->Prop,(∀a w,K a w->K' a w)->if Region.wanted o (yielded ops a.tmps)=true then Oper.wp P o a w K' Q else K' (a.put o.dst undef) w):wpOpIn (Fence.wide.inRound l) n P ops Q i K a w:=by
 have h1:=h K (fun _ _ h=>h);unfold wpOpIn;rw [D]
 have E:∀c,o.op≠.defer c:=by
  intro c e;have:=EE.1 B o (by simpa using Array.mem_of_getElem? D);rw [e] at this;cases this
 by_cases d:Region.wanted o (yielded ops a.tmps)=true
 ·rw [if_pos d] at h1;simp only [d,if_true];exact operIn_of l n E h1
 ·rw [if_neg d] at h1;simp only [d];exact ⟨fun f _=>trivial,h1⟩
theorem wpAnyIn_inv (l n:Nat) (b1:noDeferB ops=true) {J:(Nat->Bool)->(Nat->Value)->World->Prop} (hB:BT md ops js=true)
  (step:∀j∈js,∀e v w,J e v w->e j=false->(∀o,ops[j]?=some o->∀d∈o.after,Region.binds md d=true->e d.on=true)->∀o,ops[j]?=some o->∀K:Act->World->Prop,Hid (StepTo ops (fun _=>True) J js a0 j e v K)->
   if Region.wanted o (yielded ops (zF ops v js a0).tmps)=true then Oper.wp P o (zF ops v js a0) w K Q else K ((zF ops v js a0).put o.dst undef) w)
  (fin:∀v w,J (fun _=>true) v w->Q .normal (zF ops v js a0) w):
  ∀(fuel:Nat) (listed:Array Bool) (v:Nat->Value) (w:World),listed.size=ops.size->(∀k,listed.getD k true=false->k∈js)->(js.filter fun k=>!listed.getD k true).length<=fuel->J (fun k=>listed.getD k true) v w->
   wpAnyIn (Fence.wide.inRound l) n P md ops Q fuel listed (zF ops v js a0) w:=by
 unfold BT at hB;simp only [DQ,EE,DO,EC,Bool.not_eq_true',Eb] at hB;obtain ⟨⟨⟨h1,h2⟩,h3⟩,h4⟩:=hB
 have hD:Dist ops js:=fun j hj k M b5 he=>by
  rcases h4 j hj k M with (h | h) | h
  ·exact absurd h b5
  ·exact absurd he h
  ·exact h
 have a1:∀listed:Array Bool,(∀k,listed.getD k true=true)->(fun k=>listed.getD k true)=fun _=>true:=fun listed h=>funext h
 have U:∀listed:Array Bool,listed.size=ops.size->(∀k,listed.getD k true=false->k∈js)->Region.ready md ops listed=[]->∀k,listed.getD k true=true:=by
  intro listed V B hr
  have M:∀n k,k<n->listed.getD k true=true:=by
   intro n
   induction n with
   | zero=>intro k h;omega
   | succ n ih=>
    intro k d9
    cases hv:listed.getD k true with
    | true=>rfl
    | false=>
     exfalso
     have G:=h3 k (B k hv)
     have a2:k∈Region.ready md ops listed:=mem_ready.2 ⟨hv,ops[k],Array.getElem?_eq_getElem G,fun e he hb=>by
      have:=h1 k (EB.2 G);rw [Array.getElem?_eq_getElem G] at this;have h5:=(EE.1 this) e (by simpa using he);simp only [EC,Bool.not_eq_true',DO] at h5
      have h6:e.on<k:=by
       rcases h5 with h5 | h5
       ·rw [hb] at h5;cases h5
       ·exact h5
      have h7:=ih e.on (by omega);have h8:e.on<listed.size:=by omega
      simp only [Array.getD,h8,dif_pos] at h7⊢;exact h7⟩
     rw [hr] at a2;cases a2
  exact fun k=>M (k+1) k (by omega)
 intro fuel
 induction fuel with
 | zero=>
  intro listed v w V B hc hJ
  have hf:∀k,listed.getD k true=true:=fun k=>by
   cases hv:listed.getD k true with
   | true=>rfl
   | false=>
    exfalso
    have:k∈js.filter fun k=>!listed.getD k true:=Ez.2 ⟨B k hv,by rw [hv];rfl⟩
    rw [DV (Nat.le_zero.1 hc)] at this;cases this
  refine ⟨?_,fin v w (by rw [<-a1 listed hf];exact hJ)⟩;apply List.eq_nil_iff_forall_not_mem.2;intro j hj;have:=(mem_ready.1 hj).1;rw [hf j] at this;cases this
 | succ fuel ih=>
  intro listed v w V B hc hJ;refine ⟨fun hr=>fin v w (by rw [<-a1 listed (U listed V B hr)];exact hJ),fun i hi=>?_⟩;obtain ⟨a4,o,ho,a3⟩:=mem_ready.1 hi;have E:=B i a4;refine wpOpIn_step l n b1 ho fun K' hK=>?_
  have G:i<listed.size:=by have:=h3 i E;omega
  refine step i E (fun k=>listed.getD k true) v w hJ a4 (fun o' O d hd hb=>?_) o ho K' fun a' x w' ha d5 a6=>?_
  ·rw [ho] at O;injection O with O;subst O;have h9:=a3 d hd hb;by_cases a5:d.on<listed.size
   ·simp only [Array.getD,a5,dif_pos] at h9⊢;exact h9
   ·simp only [Array.getD,a5,dif_neg,not_false_eq_true] at h9;cases h9
  ·refine hK _ _ ?_
   have I:Ag (fun k=>listed.getD k true) i true=fun k=>(listed.setIfInBounds i true).getD k true:=by
    funext k;by_cases M:k=i
    ·subst M;rw [CV];simp [Array.getD,G]
    ·rw [upd_ne _ _ M];simp only [Array.getD,Array.size_setIfInBounds]
     split
     ·rename_i h
      show listed[k]=(listed.setIfInBounds i true)[k]'(by simpa using h);rw [Array.getElem_setIfInBounds,if_neg (Ne.symm M)]
     ·rfl
   rw [I] at a6;rw [<-ha,putAll_set v i x js a0 h2 hD E];refine ih (listed.setIfInBounds i true) (Ag v i x) w' (by simpa using V) (fun k M=>?_) ?_ a6
   ·by_cases D:k=i
    ·rw [D];exact E
    ·have:=congrFun I k;rw [upd_ne _ _ D] at this;exact B k (this.trans M)
   ·have b3:(js.filter fun k=>!(listed.setIfInBounds i true).getD k true)=(js.filter fun k=>!listed.getD k true).erase i:=by
     rw [List.Nodup.erase_eq_filter (h2.filter _),List.filter_filter];apply List.filter_congr;intro k M;have:=congrFun I k;rw [<-this];by_cases D:k=i
     ·subst D;simp [CV]
     ·rw [upd_ne _ _ D];simp [D]
    rw [b3,List.length_erase_of_mem (Ez.2 ⟨E,by show (!listed.getD i true)=true;rw [a4];rfl⟩)];omega
theorem wpAnyIn_by_inv (l n:Nat) (E:noDeferB ops=true) (js:List Nat) (J:(Nat->Bool)->(Nat->Value)->World->Prop) {w:World} (D:BT md ops js=true) (hL:leftB ops listed js=true) (hf:js.length<=fuel)
  (init:∀e v,(∀j∈js,e j=false)->J e v w)
  (G:(js.all fun j=>!listed.getD j true)=true)
  (step:∀j∈js,∀e v w,J e v w->e j=false->(∀o,ops[j]?=some o->∀d∈o.after,Region.binds md d=true->e d.on=true)->∀o,ops[j]?=some o->∀K:Act->World->Prop,Hid (StepTo ops (fun _=>True) J js a0 j e v K)->
   if Region.wanted o (yielded ops (zF ops v js a0).tmps)=true then Oper.wp P o (zF ops v js a0) w K Q else K ((zF ops v js a0).put o.dst undef) w)
  (fin:∀v w,J (fun _=>true) v w->Q .normal (zF ops v js a0) w):wpAnyIn (Fence.wide.inRound l) n P md ops Q fuel listed a0 w:=by
 unfold leftB at hL;simp only [DQ,EE,DO,EC] at hL
 have O:js.Nodup:=by
  unfold BT at D;simp only [DQ,DO] at D;exact D.1.1.2
 obtain ⟨v,U⟩:=Du (ops:=ops) a0 js O
 have h:=wpAnyIn_inv l n E D step fin fuel listed v w hL.1 (fun k I=>by
  by_cases B:k<listed.size
  ·rcases hL.2 k (EB.2 B) with h | h
   ·rw [I] at h;cases h
   ·exact h
  ·simp [Array.getD,B] at I) (DG (Eg _ _) hf) (init _ _ (fun j M=>by
   have:=EE.1 G j M;simpa using this))
 rwa [U] at h
end
section
variable {P:Program} {ops:Array Oper} {Q:Exit->Act->World->Prop} {md:Region.Mode} {S:World->Prop}
def StepToF (F:(Nat->Value)->Act) (d:Option Tmp) (S:World->Prop) (J:(Nat->Bool)->(Nat->Value)->World->Prop) (j:Nat) (e:Nat->Bool) (v:Nat->Value) (K:Act->World->Prop):Prop:=
 ∀a' x w',(F v).put d x=a'->S w'->J (Ag e j true) (Ag v j x) w'->K a' w'
def zi (P:Program) (ops:Array Oper) (Q:Exit->Act->World->Prop) (md:Region.Mode) (F:(Nat->Value)->Act) (S:World->Prop) (J:(Nat->Bool)->(Nat->Value)->World->Prop) (js:List Nat):Prop:=
 ∀j∈js,∀e v w,J e v w->S w->e j=false->∀o,ops[j]?=some o->(∀d∈o.after,Region.binds md d=true->e d.on=true)->∀K:Act->World->Prop,Hid (StepToF F o.dst S J j e v K)->
   if Region.wanted o (yielded ops (F v).tmps)=true then Oper.wp P o (F v) w K Q else K ((F v).put o.dst undef) w
theorem zi.nil {F:(Nat->Value)->Act} {J:(Nat->Bool)->(Nat->Value)->World->Prop}:zi P ops Q md F S J []:=fun _ h=>by cases h
theorem zi.cons {F:(Nat->Value)->Act} {J:(Nat->Bool)->(Nat->Value)->World->Prop} {j:Nat} {js:List Nat} {o:Oper} (M:ops[j]?=some o)
  (h:∀e v w (K:Act->World->Prop),J e v w->S w->e j=false->(∀d∈o.after,Region.binds md d=true->e d.on=true)->Hid (StepToF F o.dst S J j e v K)->
   if Region.wanted o (yielded ops (F v).tmps)=true then Oper.wp P o (F v) w K Q else K ((F v).put o.dst undef) w)
  (O:zi P ops Q md F S J js):zi P ops Q md F S J (j :: js):=by
 intro k hk;rcases Er.1 hk with rfl | hk
 ·intro e v w D G he o' B I K E;rw [M] at B;injection B with B;subst B;exact h e v w K D G he I E
 ·exact O k hk
theorem BL (js:List Nat) (J:(Nat->Bool)->(Nat->Value)->World->Prop) {F:(Nat->Value)->Act} {w:World} (O:BT md ops js=true) (hL:leftB ops listed js=true) (hf:js.length<=fuel) (d:S w)
  (hF:∀v,zF ops v js a0=F v) (init:∀e v,(∀j∈js,e j=false)->J e v w) (M:(js.all fun j=>!listed.getD j true)=true) (step:zi P ops Q md F S J js)
  (fin:∀v w,J (fun _=>true) v w->S w->Q .normal (F v) w):wpAnyH P md ops Q S fuel listed a0 w:=by
 refine wpAnyH_by_inv js J O hL hf d init M (fun j hj e v w D d he hd o I K U=>?_) (fun v w D d=>by rw [hF v];exact fin v w D d);have B:Bz ops j=o.dst:=by unfold Bz;rw [I];rfl
 have h:=step j hj e v w D d he o I (hd o I) K (fun a' x w' V G E=>U.out a' x w' (by rw [hF v,B];exact V) G E);rw [hF v];exact h
theorem wpAnyIn_by_invF (l n:Nat) (E:noDeferB ops=true) (js:List Nat) (J:(Nat->Bool)->(Nat->Value)->World->Prop) {F:(Nat->Value)->Act} {w:World} (O:BT md ops js=true) (hL:leftB ops listed js=true) (hf:js.length<=fuel)
  (hF:∀v,zF ops v js a0=F v) (init:∀e v,(∀j∈js,e j=false)->J e v w) (M:(js.all fun j=>!listed.getD j true)=true) (step:zi P ops Q md F (fun _=>True) J js)
  (fin:∀v w,J (fun _=>true) v w->Q .normal (F v) w):wpAnyIn (Fence.wide.inRound l) n P md ops Q fuel listed a0 w:=by
 refine wpAnyIn_by_inv l n E js J O hL hf init M (fun j hj e v w B he hd o I K U=>?_) (fun v w B=>by rw [hF v];exact fin v w B);have d:Bz ops j=o.dst:=by unfold Bz;rw [I];rfl
 have h:=step j hj e v w B trivial he o I (hd o I) K (fun a' x w' V G D=>U.out a' x w' (by rw [hF v,d];exact V) G D);rw [hF v];exact h
end
end
end Go.Proofs.YtfjjdmpndmbfoaaGreatDoor
