import Derived.Test.YthbjngbhbbkkgaaGreatHRf
import Derived.Test.YthbjngbhbbkkgaaGreatHRg
import Derived.Deep.LoopGhost
import Derived.Deep.DeepCutAuto
set_option linter.unusedVariables false
set_option linter.unusedSimpArgs false
set_option maxRecDepth 100000
set_option maxHeartbeats 16000000
namespace Go.Proofs.YthbjngbhbbkkgaaGreat
variable {seen:Array Nat} {cs:Array Value} {b:Bool} {ps:List (List Int)} {l:List Int} {vs xs:List Value} {c c0 g gu i r since:Nat} {ok ok2:Nat->Prop} {o:Obj} {vc vp x:Value} {w1:World}
section
open Go.RowKit
open Go.ChangeMaps (setBlock)
attribute [local go_sem ↓] Go.wp_at_zero Go.wp_at_succ
theorem zn {md:Region.Mode} {es:Array Edge} {e:Nat->Bool} (E:∀d∈es,Region.binds md d=true->e d.on=true) (ks:List Nat) (h:(ks.all fun k=>es.toList.any fun d=>Region.binds md d && decide (d.on=k))=true):∀k∈ks,e k=true:=by
 intro k G;obtain ⟨d,D,z⟩:=FM.1 (FN.1 h k G);simp only [ES,EQ] at z;rw [<-z.2];exact E d (by simpa using D) z.1
section
variable {W W':World} {B:Nat}
theorem zD.ext {v:Value} (h:zD W B v l) (z:zb W W'):zD W' B v l:=h.kept (row:=none) ⟨z.os,z.tape,z.output,z.size,fun i D _=>z.block i D⟩ (by cases h:v.ownBlock <;> simp)
theorem Cd.ext {v:Value} (h:Cd W B v vs) (z:zb W W'):Cd W' B v vs:=World.ownsRow.kept h (row:=none) ⟨z.os,z.tape,z.output,z.size,fun i D _=>z.block i D⟩ (by cases h:v.ownBlock <;> simp)
theorem own_ne {e e':TypeId} {v v':Value} {n n':Nat} {xs':List Value} {B':Nat} (h:W.ownsRow B e 1 v n xs) (E:W.ownsRow B' e' 1 v' n' xs') (D:e≠e'):v.ownBlock=none\/v.ownBlock≠v'.ownBlock:=by
 rcases h.2 with ⟨rfl,_⟩ | ⟨g,cap,cur,rfl,_,G,_⟩
 ·exact .inl rfl
 ·refine .inr fun e=>?_
  rcases E.2 with ⟨rfl,_⟩ | ⟨g',cap',cur',rfl,_,z,_⟩
  ·cases e
  ·have e:some g=some g':=e;injection e with e;subst e;rw [G] at z;injection z with z;injection z with _ I;exact D I
theorem BO {e:TypeId} {v:Value} {n:Nat} (h:W.ownsRow B e 1 v n xs) (z:zF W g l):v.ownBlock=none\/v.ownBlock≠some g:=by
 rcases h.2 with ⟨rfl,_⟩ | ⟨g',cap,cur,rfl,_,D,_⟩
 ·exact .inl rfl
 ·refine .inr fun e=>?_
  have e:some g'=some g:=e;injection e with e;subst e;unfold zF at z;rw [D] at z;injection z with z;cases z
end
theorem Dt {W:World} {x:Int} (h:W.cell? ⟨g,0,none⟩=some (.int .i64 x)):zj W (fun _=>True) (.slice (some ⟨g,0,none⟩) 1 1) [x]:=
 ⟨some ⟨g,0,none⟩,1,rfl,EG _,rfl,fun _=>⟨g,0,rfl,trivial,fun j u z=>by
  match j,z with
  | 0,z=>
   have:u=.int .i64 x:=by simpa using z.symm
   subst this;exact h⟩⟩
structure JW (w:World) (ch:List Int) (n:Int) (vsp:List Value) (m:MZ) (f u t:Value) (e:Nat->Bool) (v:Nat->Value) (W:World):Prop where
 ext:zb w W
 c1:e 8=true->e 11=false->zD W w.heap.size (v 8) ch
 b:e 10=true->e 11=false->∃g,v 10=.slice (some ⟨g,0,none⟩) 1 1/\W.cell? ⟨g,0,none⟩=some (.int .i64 n)
 ap:e 11=true->zD W w.heap.size (v 11) (ch++[n])
 c2:e 16=true->Cd W w.heap.size (v 16) vsp
 mm:e 17=true->∃gu,v 17=.map (some gu)/\w.heap.size<=gu/\zF W gu (if e 19 then [n] else [])
 mv:e 20=true->v 20=v 17
 bd:e 21=true->v 21=.agg #[.int .i64 m.w,.int .i64 m.h,.int .i64 m.l,f,u,t,v 11,v 16,v 20]
 bx:e 22=true->∃gs,v 22=.pointer (some ⟨gs,0,none⟩)/\w.heap.size<=gs/\zk W gs 100 #[.int .i64 m.w,.int .i64 m.h,.int .i64 m.l,f,u,t,v 11,v 16,v 20]
 fin:e 23=true->v 23=v 22
 d11:e 11=true->e 8=true
 d19:e 19=true->e 17=true
 d20:e 20=true->e 19=true
 d21:e 21=true->e 11=true/\e 16=true/\e 20=true
 d22:e 22=true->e 21=true
 d23:e 23=true->e 22=true
theorem ff {C:Prop} (h:b=false) (a:b=true):C:=by rw [h] at a;cases a
section
variable {w W W':World} {ch:List Int} {n:Int} {vsp:List Value} {m:MZ} {f u t:Value} {e:Nat->Bool} {v:Nat->Value}
theorem JW.keep (h:JW w ch n vsp m f u t e v W) (z:zb W W'):JW w ch n vsp m f u t e v W':=
 ⟨h.ext.trans z,fun a b=>(h.c1 a b).ext z,fun a b=>by obtain ⟨g,h1,h2⟩:=h.b a b;exact ⟨g,h1,z.cell h2⟩,fun a=>(h.ap a).ext z,fun a=>(h.c2 a).ext z,
  fun a=>by obtain ⟨g,h1,h2,h3⟩:=h.mm a;exact ⟨g,h1,h2,h3.below z⟩,h.mv,h.bd,fun a=>by obtain ⟨g,h1,h2,h3⟩:=h.bx a;exact ⟨g,h1,h2,h3.ext z⟩,h.fin,h.d11,h.d19,h.d20,h.d21,h.d22,h.d23⟩
theorem JW.s8 (h:JW w ch n vsp m f u t e v W) (z:e 11=false) (D:zD W w.heap.size x ch):JW w ch n vsp m f u t (Ao e 8 true) (Ao v 8 x) W:=by
 exact ⟨h.ext,fun _ _=>D,h.b,h.ap,h.c2,h.mm,h.mv,h.bd,h.bx,h.fin,fun _=>rfl,h.d19,h.d20,h.d21,h.d22,h.d23⟩
theorem JW.s10 (h:JW w ch n vsp m f u t e v W) (z:W.cell? ⟨g,0,none⟩=some (.int .i64 n)):JW w ch n vsp m f u t (Ao e 10 true) (Ao v 10 (.slice (some ⟨g,0,none⟩) 1 1)) W:=by
 exact ⟨h.ext,h.c1,fun _ _=>⟨g,rfl,z⟩,h.ap,h.c2,h.mm,h.mv,h.bd,h.bx,h.fin,h.d11,h.d19,h.d20,h.d21,h.d22,h.d23⟩
theorem JW.s11 (h:JW w ch n vsp m f u t e v W) (J:e 8=true) (z:e 11=false) (D:e 21=false) (E:e 22=false) (M:zD W' w.heap.size x (ch++[n])) (G:Hid (W.grownBy W' (v 8).ownBlock)):JW w ch n vsp m f u t (Ao e 11 true) (Ao v 11 x) W':=by
 have I:=h.c1 J z;refine ⟨?_,?_,?_,?_,?_,?_,?_,?_,?_,?_,fun _=>J,h.d19,h.d20,fun a=>⟨rfl,(h.d21 a).2⟩,h.d22,h.d23⟩
 ·exact Ad h.ext G h.ext.size (fun k L=>Bg I L)
 ·exact fun _ h=>by cases h
 ·exact fun _ h=>by cases h
 ·exact fun _=>M
 ·exact fun a=>World.ownsRow.kept (h.c2 a) G.out (own_ne (h.c2 a) I (by decide))
 ·intro a;obtain ⟨gu,h1,h2,h3⟩:=h.mm a;refine ⟨gu,h1,h2,(G.out.block gu (zd h3) (fun e=>?_)).trans h3⟩;rcases BO I h3 with h4 | h4
  ·rw [h4] at e;cases e
  ·exact h4 e.symm
 ·exact h.mv
 ·exact fun a=>ff D a
 ·exact fun a=>ff E a
 ·exact h.fin
theorem JW.s16 (h:JW w ch n vsp m f u t e v W) (z:e 21=false) (D:e 22=false) (E:Cd W w.heap.size x vsp):JW w ch n vsp m f u t (Ao e 16 true) (Ao v 16 x) W:=by
 exact ⟨h.ext,h.c1,h.b,h.ap,fun _=>E,h.mm,h.mv,fun a=>ff z a,fun a=>ff D a,h.fin,h.d11,h.d19,h.d20,fun a=>⟨(h.d21 a).1,rfl,(h.d21 a).2.2⟩,h.d22,h.d23⟩
theorem JW.s17 (h:JW w ch n vsp m f u t e v W) (z:e 19=false) (D:e 20=false) (E:w.heap.size<=g) (G:zF W g []):JW w ch n vsp m f u t (Ao e 17 true) (Ao v 17 (.map (some g))) W:=by
 exact ⟨h.ext,h.c1,h.b,h.ap,h.c2,fun _=>⟨g,rfl,E,by show zF _ _ (if e 19=true then [n] else []);rw [z];exact G⟩,fun a=>ff D a,h.bd,h.bx,h.fin,h.d11,fun _=>rfl,h.d20,h.d21,h.d22,h.d23⟩
theorem JW.s19 (h:JW w ch n vsp m f u t e v W) (G:e 17=true) (J:v 17=.map (some gu)) (E:zF W gu []) (I:e 22=false) (L:zF W' gu [n]) (z:W.grownBy W' (some gu)) (D:w.heap.size<=gu):JW w ch n vsp m f u t (Ao e 19 true) (Ao v 19 x) W':=by
 refine ⟨?_,?_,?_,?_,?_,?_,?_,?_,?_,?_,h.d11,fun _=>G,fun _=>rfl,h.d21,h.d22,h.d23⟩
 ·exact Ba h.ext z h.ext.size D
 ·exact fun a b=>World.ownsRow.kept (h.c1 a b) z (BO (h.c1 a b) E)
 ·intro a b;obtain ⟨g,h1,h2⟩:=h.b a b;refine ⟨g,h1,(World.grownBy.cell z h2 (fun e=>?_))⟩;injection e with e;have:g=gu:=e;subst this;unfold zF at E;unfold World.cell? at h2;simp [E,mapObj] at h2
 ·exact fun a=>World.ownsRow.kept (h.ap a) z (BO (h.ap a) E)
 ·exact fun a=>World.ownsRow.kept (h.c2 a) z (BO (h.c2 a) E)
 ·exact fun _=>⟨gu,J,D,L⟩
 ·exact h.mv
 ·exact h.bd
 ·exact fun a=>ff I a
 ·exact h.fin
theorem JW.s20 (h:JW w ch n vsp m f u t e v W) (z:e 19=true) (D:e 21=false) (E:e 22=false):JW w ch n vsp m f u t (Ao e 20 true) (Ao v 20 (v 17)) W:=by
 exact ⟨h.ext,h.c1,h.b,h.ap,h.c2,h.mm,fun _=>rfl,fun a=>ff D a,fun a=>ff E a,h.fin,h.d11,h.d19,fun _=>z,fun a=>⟨(h.d21 a).1,(h.d21 a).2.1,rfl⟩,h.d22,h.d23⟩
theorem JW.s21 (h:JW w ch n vsp m f u t e v W) (z:e 11=true/\e 16=true/\e 20=true) (D:x=.agg #[.int .i64 m.w,.int .i64 m.h,.int .i64 m.l,f,u,t,v 11,v 16,v 20]):JW w ch n vsp m f u t (Ao e 21 true) (Ao v 21 x) W:=by
 exact ⟨h.ext,h.c1,h.b,h.ap,h.c2,h.mm,h.mv,fun _=>D,h.bx,h.fin,h.d11,h.d19,h.d20,fun _=>z,fun _=>rfl,h.d23⟩
theorem JW.s22 {gs:Nat} (h:JW w ch n vsp m f u t e v W) (z:e 21=true) (D:e 23=false) (G:w.heap.size<=gs) (E:zk W gs 100 #[.int .i64 m.w,.int .i64 m.h,.int .i64 m.l,f,u,t,v 11,v 16,v 20]):JW w ch n vsp m f u t (Ao e 22 true) (Ao v 22 (.pointer (some ⟨gs,0,none⟩))) W:=by
 exact ⟨h.ext,h.c1,h.b,h.ap,h.c2,h.mm,h.mv,h.bd,fun _=>⟨gs,rfl,G,E⟩,fun a=>ff D a,h.d11,h.d19,h.d20,h.d21,fun _=>z,fun _=>rfl⟩
theorem JW.s23 (h:JW w ch n vsp m f u t e v W) (z:e 22=true):JW w ch n vsp m f u t (Ao e 23 true) (Ao v 23 (v 22)) W:=by
 exact ⟨h.ext,h.c1,h.b,h.ap,h.c2,h.mm,h.mv,h.bd,h.bx,fun _=>rfl,h.d11,h.d19,h.d20,h.d21,h.d22,fun _=>z⟩
theorem JW.init {w:World} {ch:List Int} {n:Int} {vsp:List Value} {m:MZ} {f u t:Value} {e:Nat->Bool} {v:Nat->Value} (he:∀j∈[8,10,11,16,17,19,20,21,22,23],e j=false):JW w ch n vsp m f u t e v w.drew:=
 ⟨Ds,fun a=>ff (he 8 (by simp)) a,fun a=>ff (he 10 (by simp)) a,fun a=>ff (he 11 (by simp)) a,fun a=>ff (he 16 (by simp)) a,fun a=>ff (he 17 (by simp)) a,fun a=>ff (he 20 (by simp)) a,fun a=>ff (he 21 (by simp)) a,
  fun a=>ff (he 22 (by simp)) a,fun a=>ff (he 23 (by simp)) a,fun a=>ff (he 11 (by simp)) a,fun a=>ff (he 19 (by simp)) a,fun a=>ff (he 20 (by simp)) a,fun a=>ff (he 21 (by simp)) a,fun a=>ff (he 22 (by simp)) a,fun a=>ff (he 23 (by simp)) a⟩
theorem notT {c:Bool} (h:b=true->c=true) (z:c=false):b=false:=by
 cases b with
 | false=>rfl
 | true=>exact absurd (h rfl) (by rw [z];simp)
theorem JW.n11 (h:JW w ch n vsp m f u t e v W) (z:e 8=false):e 11=false:=notT h.d11 z
theorem JW.n21 (h:JW w ch n vsp m f u t e v W) (z:e 11=false):e 21=false:=notT (fun a=>(h.d21 a).1) z
theorem JW.n21' (h:JW w ch n vsp m f u t e v W) (z:e 16=false):e 21=false:=notT (fun a=>(h.d21 a).2.1) z
theorem JW.n21'' (h:JW w ch n vsp m f u t e v W) (z:e 20=false):e 21=false:=notT (fun a=>(h.d21 a).2.2) z
theorem JW.n22 (h:JW w ch n vsp m f u t e v W) (z:e 21=false):e 22=false:=notT h.d22 z
theorem JW.n23 (h:JW w ch n vsp m f u t e v W) (z:e 22=false):e 23=false:=notT h.d23 z
theorem JW.n20 (h:JW w ch n vsp m f u t e v W) (z:e 19=false):e 20=false:=notT h.d20 z
theorem JW.n19 (h:JW w ch n vsp m f u t e v W) (z:e 17=false):e 19=false:=notT h.d19 z
end
structure WO (w W:World) (m:MZ) (ch:List Int) (vsp:List Value) (f u t:Value) (gs gm:Nat) (v1 v2:Value) (us:List Int):Prop where
 ext:zb w W
 hs:w.heap.size<=gs
 hm:w.heap.size<=gm
 blk:zk W gs 100 (stCells m f u t v1 v2 gm)
 ch:zD W w.heap.size v1 ch
 ps:Cd W w.heap.size v2 vsp
 set:zF W gm us
section
variable {w W W':World} {m:MZ} {ch us us':List Int} {vsp:List Value} {f u t v1 v2:Value} {gs gm:Nat}
theorem WO.keep (h:WO w W m ch vsp f u t gs gm v1 v2 us) (z:zb W W'):WO w W' m ch vsp f u t gs gm v1 v2 us:=
 ⟨h.ext.trans z,h.hs,h.hm,h.blk.ext z,h.ch.ext z,h.ps.ext z,h.set.below z⟩
theorem blk_set_ne {W:World} {g':Nat} {t:TypeId} (h:zk W g t cs) (z:zF W g' l):g≠g':=by
 rintro rfl;unfold zk at h;unfold zF mapObj at z;rw [h] at z
 cases z
theorem WO.add (h:WO w W m ch vsp f u t gs gm v1 v2 us) (D:zF W' gm us') (z:W.grownBy W' (some gm)):WO w W' m ch vsp f u t gs gm v1 v2 us':=
 ⟨Ba h.ext z h.ext.size h.hm,h.hs,h.hm,(z.block gs (zd h.blk) (fun e=>by injection e with e;exact blk_set_ne h.blk h.set e)).trans h.blk,
  World.ownsRow.kept h.ch z (BO h.ch h.set),World.ownsRow.kept h.ps z (BO h.ps h.set),D⟩
theorem grown_iter {W:World} (h:w1=W\/w1=W.drew):W.grownBy (setBlock w1 r o) (some r):=by
 have h1:w1.heap=W.heap/\w1.os=W.os/\w1.tape=W.tape/\w1.output=W.output:=by rcases h with rfl | rfl <;> exact ⟨rfl,rfl,rfl,rfl⟩
 refine ⟨h1.2.1,h1.2.2.1,h1.2.2.2,by simp [setBlock,h1.1],fun k _ z=>?_⟩;rw [Dc _ (fun e=>z (by rw [e])),h1.1]
theorem iter_ne {W:World} {k:Nat} (h:IterIs W r g since seen c0) (z:W.heap[k]?=some o) (D:∀a b c d,o≠.mapIter a b c d):k≠r:=by
 rintro rfl;unfold IterIs at h;rw [z] at h;injection h with h;exact D _ _ _ _ h
theorem own_iter_ne {W:World} {B:Nat} {e:TypeId} {v:Value} {n:Nat} (h:W.ownsRow B e 1 v n xs) (D:IterIs W r g since seen c0):v.ownBlock=none\/v.ownBlock≠some r:=by
 rcases h.2 with ⟨rfl,_⟩ | ⟨g',cap,cur,rfl,_,z,_⟩
 ·exact .inl rfl
 ·refine .inr fun e=>?_
  have e:some g'=some r:=e;injection e with e;exact iter_ne D z (fun _ _ _ _ h=>by cases h) e
theorem own_capL {w:World} {B:Nat} (h:Cd w B (.slice (some ⟨g,0,none⟩) vs.length c) vs):vs.length<=c:=Ck h
theorem WO.st {ch0 us0:List Int} (h0:BK w ok g m ch0 ps us0 f u t vc vp gu) (z:∀(i:Nat) (x:List Int),ps[i]?=some x->∃u,vsp[i]?=some u/\zj w ok u x) (h:WO w W m ch vsp f u t gs gm v1 v2 us)
  (D:vsp.length=ps.length):BK W (fun b=>ok b\/w.heap.size<=b) gs m ch ps us f u t v1 v2 gm:=
 BK.make h.ext h0.maze (fun _ h=>.inl h) h.blk (.inr h.hs) ((AI.of_own h.ch).weaken (fun _ h=>.inr h)) ⟨vsp,by rw [<-D];exact (AI.of_own h.ps).weaken (fun _ h=>.inr h),fun i x I=>by
  obtain ⟨u,G,E⟩:=z i x I;exact ⟨u,G,(E.below h.ext).weaken (fun _ h=>.inl h)⟩⟩ (.inr h.hm) h.set
theorem mem_step {us:List Int} {n x:Int} (D:i<us.length):((x=n\/∃j,us[j]?=some x/\seen.contains j=true)\/x=us[i])↔(x=n\/∃j,us[j]?=some x/\(seen.push i).contains j=true):=by
 have z:∀j,(seen.push i).contains j=true↔seen.contains j=true\/j=i:=by
  intro j;simp
 constructor
 ·rintro ((h | ⟨j,h1,h2⟩) | h)
  ·exact .inl h
  ·exact .inr ⟨j,h1,(z j).2 (.inl h2)⟩
  ·exact .inr ⟨i,by rw [EE D,h],(z i).2 (.inr rfl)⟩
 ·rintro (h | ⟨j,h1,h2⟩)
  ·exact .inl (.inl h)
  ·rcases (z j).1 h2 with h3 | rfl
   ·exact .inl (.inr ⟨j,h1,h3⟩)
   ·rw [EE D] at h1;injection h1 with h1;exact .inr h1.symm
theorem mem_all {us:List Int} {n x:Int} (h:∀i,i<us.length->seen.contains i=true):(x=n\/∃j,us[j]?=some x/\seen.contains j=true)↔(x=n\/x∈us):=by
 constructor
 ·rintro (h1 | ⟨j,h1,_⟩)
  ·exact .inl h1
  ·exact .inr (List.mem_of_getElem? h1)
 ·rintro (h1 | h1)
  ·exact .inl h1
  ·obtain ⟨j,z,rfl⟩:=Fm h1;exact .inr ⟨j,EE z,h j z⟩
structure RW (w W:World) (m:MZ) (ch:List Int) (vsp:List Value) (f u t:Value) (gs gm:Nat) (v1 v2:Value) (us2:List Int) (r gu:Nat) (us:List Int) (n:Int) (seen:Array Nat) (c0:Nat):Prop where
 wo:WO w W m ch vsp f u t gs gm v1 v2 us2
 it:IterIs W r gu us.length seen c0
 hr:w.heap.size<=r
 hc:us.length<=c0
 old:zF W gu us
 mem:∀x,x∈us2↔x=n\/∃i,us[i]?=some x/\seen.contains i=true
theorem RW.step {w W:World} {m:MZ} {ch us us2:List Int} {vsp:List Value} {f u t v1 v2:Value} {gs gm:Nat} {n:Int} (h:RW w W m ch vsp f u t gs gm v1 v2 us2 r gu us n seen c0) (G:gu<w.heap.size) (E:w1=W\/w1=W.drew):
  WO w (setBlock w1 r (.mapIter (some gu) us.length (seen.push i) us.length)) m ch vsp f u t gs gm v1 v2 us2/\IterIs (setBlock w1 r (.mapIter (some gu) us.length (seen.push i) us.length)) r gu us.length (seen.push i) us.length/\zF (setBlock w1 r (.mapIter (some gu) us.length (seen.push i) us.length)) gu us:=by
 have D:W.grownBy (setBlock w1 r (.mapIter (some gu) us.length (seen.push i) us.length)) (some r):=grown_iter E;have h1:w1.heap=W.heap:=by rcases E with rfl | rfl <;> rfl
 have z:∀(k:Nat) (o:Obj),W.heap[k]?=some o->(∀a b c d,o≠.mapIter a b c d)->k≠r:=fun k o I J=>iter_ne h.it I J
 refine ⟨⟨Ba h.wo.ext D h.wo.ext.size h.hr,h.wo.hs,h.wo.hm,?_,World.ownsRow.kept h.wo.ch D (own_iter_ne h.wo.ch h.it),World.ownsRow.kept h.wo.ps D (own_iter_ne h.wo.ps h.it),?_⟩,?_,?_⟩
 ·exact (D.block gs (zd h.wo.blk) (fun e=>by injection e with e;exact z _ _ h.wo.blk (fun _ _ _ _ h=>by cases h) e)).trans h.wo.blk
 ·exact (D.block gm (zd h.wo.set) (fun e=>by injection e with e;exact z _ _ h.wo.set (fun _ _ _ _ h=>by cases h) e)).trans h.wo.set
 ·exact setBlock_same _ (by rw [h1];exact zd h.it)
 ·exact (D.block gu (zd h.old) (fun e=>by injection e with e;exact z _ _ h.old (fun _ _ _ _ h=>by cases h) e)).trans h.old
end
theorem paths_app {W W3:World} (D:∀(i:Nat) (x:List Int),ps[i]?=some x->∃u,vs[i]?=some u/\zj W ok2 u x) (G:vs.length=ps.length) (E:zW ok2 W W3):
  ∀(i:Nat) (x:List Int),(ps++[[]])[i]?=some x->∃u,(vs++[.slice none 0 0])[i]?=some u/\zj W3 ok2 u x:=by
 intro i x z;by_cases h:i<ps.length
 ·rw [EL h] at z;obtain ⟨u,J,I⟩:=D i x z;exact ⟨u,by rw [EL (by omega)];exact J,I.keep E⟩
 ·rw [EM (by omega)] at z
  have h0:i - ps.length=0:=by
   rcases Fs (i - ps.length) with h | h
   ·exact h
   ·rw [EZ (by simp;omega)] at z;cases z
  rw [h0] at z;have:x=[]:=by simpa using z.symm
  subst this;exact ⟨_,by rw [EM (by omega),G,h0];rfl,zj.nil _ _⟩
theorem row_nil1 {W:World} (h:W.cell? ⟨g,0,none⟩=some (.slice none 0 0)) (D:ok g):AI W ok 1 (.slice (some ⟨g,0,none⟩) 1 1) [Value.slice none 0 0].length [.slice none 0 0]:=
 ⟨some ⟨g,0,none⟩,1,rfl,EG _,rfl,fun _=>⟨g,0,rfl,D,fun j u z=>by
  match j,z with
  | 0,z=>
   have:u=.slice none 0 0:=by simpa using z.symm
   subst this;exact h⟩⟩
theorem CG {W:World} {t e:TypeId} {B:Nat} {v:Value} {n:Nat} (h:zk W g t cs) (D:W.ownsRow B e 1 v n xs) (z:e≠t):v.ownBlock≠some g:=zm D h z
theorem WO.app {w W W2:World} {m:MZ} {ch us:List Int} {vs':List Value} {f u t v1 v2 v2':Value} {gs gm:Nat} (h:WO w W m ch vs f u t gs gm v1 v2 us) (J:Cd W2 w.heap.size v2' vs') (D:W.grownBy W2 v2.ownBlock):
  WO w (W2.setCell ⟨gs,7,none⟩ v2') m ch vs' f u t gs gm v1 v2' us:=by
 have E:gs<W.heap.size:=zd h.blk;have G:some gs≠v2.ownBlock:=fun e=>CG h.blk h.ps (by decide) e.symm
 have z:zk W2 gs 100 (stCells m f u t v1 v2 gm):=(D.block gs E G).trans h.blk;have I:zD W2 w.heap.size v1 ch:=World.ownsRow.kept h.ch D (own_ne h.ch h.ps (by decide))
 have L:zF W2 gm us:=(D.block gm (zd h.set) (fun e=>by
  rcases BO h.ps h.set with h | h
  ·rw [h] at e;cases e
  ·exact h e.symm)).trans h.set
 exact ⟨(h.ext.grown D h.ext.size (fun k M=>(World.ownsRow.lt h.ps k M).1)).setCell h.hs _,h.hs,h.hm,z.set v2',ownsRow_setCell_other I (CG z I (by decide)) _,ownsRow_setCell_other J (CG z J (by decide)) _,
  (EP W2 _ _ gm (fun e=>blk_set_ne z L e.symm)).trans L⟩
theorem WO.st2 {w W:World} {m:MZ} {ch us:List Int} {f u t v1 v2:Value} {gs gm:Nat} (hm:zw w ok (.agg #[.int .i64 m.w,.int .i64 m.h,.int .i64 m.l,f,u,t]) m) (h:WO w W m ch vs f u t gs gm v1 v2 us) (E:vs.length=ps.length)
  (z:∀(i:Nat) (x:List Int),ps[i]?=some x->∃u,vs[i]?=some u/\zj W ok2 u x) (D:∀b,ok2 b->ok b\/w.heap.size<=b):BK W (fun b=>ok b\/w.heap.size<=b) gs m ch ps us f u t v1 v2 gm:=
 BK.make h.ext hm (fun _ h=>.inl h) h.blk (.inr h.hs) ((AI.of_own h.ch).weaken (fun _ h=>.inr h)) ⟨vs,by rw [<-E];exact (AI.of_own h.ps).weaken (fun _ h=>.inr h),fun i x J=>by
  obtain ⟨u,I,G⟩:=z i x J;exact ⟨u,I,G.weaken D⟩⟩ (.inr h.hm) h.set
def Cm (ps:List (List Int)) (n:Int):List (List Int):=ps.set (ps.length - 1) (ps.getD (ps.length - 1) []++[n])
def BQ (m:MZ) (ps:List (List Int)) (n:Int):List (List Int):=if finB m (Cm ps n)=true/\ps.length<m.tasks.length then Cm ps n++[[]] else Cm ps n
theorem ints_setCell {W:World} {v:Value} {b k:Nat} (h:zj W ok v l) (z:¬ ok b):zj (W.setCell ⟨b,k,none⟩ x) ok v l:=
 h.keep (fun g D _=>EP W ⟨b,k,none⟩ x g (fun e=>z (by rw [<-show g=b from e];exact D)))
theorem paths_set {w wt W9:World} {m:MZ} {ch us:List Int} {f u t v1 x15:Value} {gs gm b2 k:Nat} {q:List Int}
  (M:∀(i:Nat) (x:List Int),ps[i]?=some x->∃u,vs[i]?=some u/\zj w ok u x) (hl:vs.length=ps.length) (J:WO w wt m ch vs f u t gs gm v1 (.slice (some ⟨b2,0,none⟩) vs.length c) us) (hE:zb wt W9) (a1:w.heap.size<=b2) (L:b2<wt.heap.size) (hk:k<vs.length)
  (hx:zj W9 (fun b=>wt.heap.size<=b) x15 q):
  ∀(i:Nat) (x:List Int),(ps.set k q)[i]?=some x->∃u,(vs.set k x15)[i]?=some u/\zj (W9.setCell ⟨b2,k,none⟩ x15) (fun b=>(ok b/\b<w.heap.size)\/wt.heap.size<=b) u x:=by
 intro i x E;by_cases D:k=i
 ·subst D;rw [List.getElem?_set_self (by omega)] at E;injection E with E;subst E;refine ⟨x15,by rw [List.getElem?_set_self hk],(ints_setCell hx (by omega)).weaken (fun b G=>.inr G)⟩
 ·rw [List.getElem?_set_ne D] at E;obtain ⟨u',U,hr⟩:=M i x E;refine ⟨u',by rw [List.getElem?_set_ne D];exact U,?_⟩
  have T:zj w (fun b=>ok b/\b<w.heap.size) u' x:=by
   obtain ⟨A,c',e,hc,O,z⟩:=hr;refine ⟨A,c',e,hc,O,fun V=>?_⟩;obtain ⟨b,off,e',G,I⟩:=z V
   have Q:b<w.heap.size:=by
    have h0:0<(x.map (Value.int .i64)).length:=by simpa using V
    exact zo (I 0 _ (EE h0))
   exact ⟨b,off,e',⟨G,Q⟩,I⟩
  exact ((ints_setCell (T.below (J.ext.trans hE)) (by omega)).weaken (fun b G=>.inl G))
structure J7 (wk:World) (b2 k:Nat) (p:List Int) (n:Int) (up:Value) (e:Nat->Bool) (v:Nat->Value) (W:World):Prop where
 ext:e 17=false->zb wk W
 l:e 11=true->v 11=up
 c:e 12=true->e 15=false->zD W wk.heap.size (v 12) p
 b:e 14=true->e 15=false->∃g,v 14=.slice (some ⟨g,0,none⟩) 1 1/\W.cell? ⟨g,0,none⟩=some (.int .i64 n)
 ap:e 15=true->e 17=false->zD W wk.heap.size (v 15) (p++[n])
 ix:e 16=true->v 16=.pointer (some ⟨b2,k,none⟩)
 st:e 17=true->∃W9,zb wk W9/\zD W9 wk.heap.size (v 15) (p++[n])/\W=W9.setCell ⟨b2,k,none⟩ (v 15)
 d12:e 12=true->e 11=true
 d15:e 15=true->e 12=true/\e 14=true
 d17:e 17=true->e 15=true/\e 16=true
section
variable {wk W W':World} {b2 k:Nat} {p:List Int} {n:Int} {up:Value} {e:Nat->Bool} {v:Nat->Value}
theorem J7.init (he:∀j∈[11,12,14,15,16,17],e j=false):J7 wk b2 k p n up e v wk.drew:=
 ⟨fun _=>Ds,fun a=>ff (he 11 (by simp)) a,fun a=>ff (he 12 (by simp)) a,fun a=>ff (he 14 (by simp)) a,fun a=>ff (he 15 (by simp)) a,fun a=>ff (he 16 (by simp)) a,fun a=>ff (he 17 (by simp)) a,fun a=>ff (he 12 (by simp)) a,fun a=>ff (he 15 (by simp)) a,fun a=>ff (he 17 (by simp)) a⟩
theorem J7.n15 (h:J7 wk b2 k p n up e v W) (z:e 12=false):e 15=false:=notT (fun a=>(h.d15 a).1) z
theorem J7.n15' (h:J7 wk b2 k p n up e v W) (z:e 14=false):e 15=false:=notT (fun a=>(h.d15 a).2) z
theorem J7.n12 (h:J7 wk b2 k p n up e v W) (z:e 11=false):e 12=false:=notT h.d12 z
theorem J7.n17 (h:J7 wk b2 k p n up e v W) (z:e 15=false):e 17=false:=notT (fun a=>(h.d17 a).1) z
theorem J7.s11 (h:J7 wk b2 k p n up e v W):J7 wk b2 k p n up (Ao e 11 true) (Ao v 11 up) W:=
 ⟨h.ext,fun _=>rfl,h.c,h.b,h.ap,h.ix,h.st,fun _=>rfl,h.d15,h.d17⟩
theorem J7.s12 (h:J7 wk b2 k p n up e v W) (E:e 17=false) (z:e 15=false) (D:e 11=true) (G:zb W W') (I:zD W' wk.heap.size x p):J7 wk b2 k p n up (Ao e 12 true) (Ao v 12 x) W':=
 ⟨fun a=>(h.ext a).trans G,h.l,fun _ _=>I,fun a b=>(by obtain ⟨g,h1,h2⟩:=h.b a b;exact ⟨g,h1,G.cell h2⟩),fun a=>ff z a,h.ix,fun a=>ff E a,fun _=>D,fun a=>ff z a,h.d17⟩
theorem J7.s14 (h:J7 wk b2 k p n up e v W) (D:e 17=false) (z:e 15=false) (E:zb W W') (G:W'.cell? ⟨g,0,none⟩=some (.int .i64 n)):J7 wk b2 k p n up (Ao e 14 true) (Ao v 14 (.slice (some ⟨g,0,none⟩) 1 1)) W':=
 ⟨fun a=>(h.ext a).trans E,h.l,fun a b=>(h.c a b).ext E,fun _ _=>⟨g,rfl,G⟩,fun a=>ff z a,h.ix,fun a=>ff D a,h.d12,fun a=>ff z a,h.d17⟩
theorem J7.s15 (h:J7 wk b2 k p n up e v W) (E:e 17=false) (z:e 12=true) (D:e 14=true) (G:zb wk W') (I:zD W' wk.heap.size x (p++[n])):J7 wk b2 k p n up (Ao e 15 true) (Ao v 15 x) W':=
 ⟨fun _=>G,h.l,fun _ a=>(by cases a),fun _ a=>(by cases a),fun _ _=>I,h.ix,fun a=>ff E a,h.d12,fun _=>⟨z,D⟩,fun a=>⟨rfl,(h.d17 a).2⟩⟩
theorem J7.s16 (h:J7 wk b2 k p n up e v W):J7 wk b2 k p n up (Ao e 16 true) (Ao v 16 (.pointer (some ⟨b2,k,none⟩))) W:=
 ⟨h.ext,h.l,h.c,h.b,h.ap,fun _=>rfl,h.st,h.d12,h.d15,fun a=>⟨(h.d17 a).1,rfl⟩⟩
theorem J7.s17 (h:J7 wk b2 k p n up e v W) (D:e 17=false) (z:e 15=true) (E:e 16=true) (hW:W'=W.setCell ⟨b2,k,none⟩ (v 15)):J7 wk b2 k p n up (Ao e 17 true) (Ao v 17 x) W':=
 ⟨fun a=>(by cases a),h.l,fun _ a=>ff (b:=e 15) a z,fun _ a=>ff (b:=e 15) a z,fun _ a=>(by cases a),h.ix,fun _=>⟨W,h.ext D,h.ap z D,hW⟩,h.d12,h.d15,fun _=>⟨z,E⟩⟩
theorem WO.store {w:World} {m:MZ} {ch us:List Int} {vsp:List Value} {f u t v1:Value} {gs gm:Nat} (h:WO w W m ch vsp f u t gs gm v1 (.slice (some ⟨b2,0,none⟩) vsp.length c) us) (D:w.heap.size<=b2):
  WO w (W.setCell ⟨b2,k,none⟩ x) m ch (vsp.set k x) f u t gs gm v1 (.slice (some ⟨b2,0,none⟩) vsp.length c) us:=by
 have h2:Cd (W.setCell ⟨b2,k,none⟩ x) w.heap.size (.slice (some ⟨b2,0,none⟩) vsp.length c) (vsp.set k x):=by
  have:=(World.ownsRow.stored h.ps k x).1;unfold Cd;rw [List.length_set];exact this
 have z:=(World.ownsRow.stored h.ps k x).2;have h3:v1.ownBlock=none\/v1.ownBlock≠some b2:=own_ne h.ch h.ps (by decide);have E:b2≠gs:=fun e=>CG h.blk h.ps (by decide) (by rw [<-e];rfl)
 have G:b2≠gm:=fun e=>by
  rcases BO h.ps h.set with h | h
  ·cases h
  ·exact h (by rw [<-e];rfl)
 exact ⟨Ba h.ext z h.ext.size D,h.hs,h.hm,(z.block gs (zd h.blk) (fun e=>by injection e with e;exact E e.symm)).trans h.blk,World.ownsRow.kept h.ch z h3,h2,(z.block gm (zd h.set) (fun e=>by injection e with e;exact G e.symm)).trans h.set⟩
end
theorem with_calls {m:MZ} {ch us:List Int} {f u ts:Value} (n:Int) (w:World) (h:BK w ok g m ch ps us f u ts vc vp gu) (so:SOk m ch ps) (so1:SOk m (ch++[n]) (Cm ps n)) (hp:0<ps.length):
  Calls Tryz.prog 85 #[.pointer (some ⟨g,0,none⟩),.int .i64 n] w fun e w'=>∃v',e=.returned v'/\zb w w'/\∃us',(∀x,x∈us'↔x=n\/x∈us)/\Dk w' (fun b=>ok b\/w.heap.size<=b) v' m (ch++[n]) (BQ m ps n) us':=by
 obtain ⟨r0,r1,r2,r3,r4,r5,r6,r7,r8⟩:=h.rules;have m9:=h.ps;have o7:=h.ch;have m6:=h.maze;obtain ⟨fr',up',ts',b0,_,_,n2⟩:=m6;injection b0 with b0;injection b0 with b0;simp only [List.cons.injEq,and_true,true_and] at b0;obtain ⟨rfl,rfl,rfl⟩:=b0;obtain ⟨vst,⟨At,ct,rfl,o8,_⟩,_⟩:=n2;have SO1:=zh so1;clear so1;have HS:=zh h;clear h;have so_pl:ps.length<=6:=EI so.pl so.good.tk;have SO:=zh so;clear so;obtain ⟨vs,a8,g8⟩:=m9
 have i1:vs.length=ps.length:=by
  obtain ⟨_,_,_,_,hr⟩:=a8;have:=hr.1;omega
 have h1:∀u∈vs,u.oneCell'=true:=by
  intro u hu;obtain ⟨i,hi,rfl⟩:=Fm hu;obtain ⟨u',e7,n0⟩:=g8 i _ (EE (by omega:i<ps.length));rw [EE hi] at e7;injection e7 with e7;rw [e7];exact DV n0
 rw [<-i1] at a8;have o2:vs.length<=6:=by have:=so_pl;omega
 have H1:=zh h1;clear h1;have V:=zh i1;clear i1;have i5:=zh a8;clear a8;have f6:=zh g8;clear g8;have p2:=@run_makeMap Tryz.prog;have hx:=zb.refl w
 go_enter Tryz.func85,Tryz.ntmps85
 go_wp2_with fail
 refine EW (S:=(fun w'=>zb w w')) (by kernel_rfl) (Ds) fun zH=>?_;refine zf 0 zH ?_;refine zf 1 zH ?_;refine zf 2 zH ?_;refine zf 3 zH ?_;refine zf 4 zH ?_;refine zf 5 zH ?_;refine zf 6 zH ?_;refine zf 7 zH ?_;refine zf 9 zH ?_;refine zf 12 zH ?_;refine zf 13 zH ?_;refine zf 14 zH ?_;refine zf 15 zH ?_;refine zf 18 zH ?_;simp only [za,ED];refine BJ [8,10,11,16,17,19,20,21,22,23] (fun e v W=>JW w ch n vs m f u (.slice At m.tasks.length ct) e v W) (F:=?F1) (by kernel_rfl) (by kernel_rfl) (by decide) zH (fun v=>?hF1) ?init1 (by kernel_rfl) ?steps1 ?fin1
 case hF1=>(simp only [zM,Cc,List.getElem?_toArray,List.getElem?_cons_succ,List.getElem?_cons_zero,Option.bind,Act.put,List.setIfInBounds_toArray,List.set_cons_succ,List.set_cons_zero];rfl)
 case init1=>
  intro e v he;exact JW.init he
 case steps1=>
  refine zg.cons rfl (fun e v W K z hW he E D=>?_) ?_
  ·simp only [za] at E D⊢;go_simp;go_at_call 46;refine (DQ _ (HS.out.ext hW).ch (by have:=SO.out.cl;omega)).mono ?_;rintro e9 w9 ⟨v9,rfl,hM⟩;exact D.out _ v9 _ (by rfl) (hW.trans hM.ext) ((z.keep hM.ext).s8 (z.n11 he) (hM.own.mono hW.size))
  refine zg.cons rfl (fun e v W K z hW he E D=>?_) ?_
  ·simp only [za] at E D⊢;go_simp;exact D.out _ _ _ (by rfl) (hW.alloc _) ((z.keep ((zb.refl W).alloc _)).s10 (zr _ _ _ rfl))
  refine zg.cons rfl (fun e v W K z hW he E D=>?_) ?_
  ·simp only [za] at E D⊢;have h8:e 8=true:=zn E [8] (by kernel_rfl) 8 (by simp);have l6:e 10=true:=zn E [10] (by kernel_rfl) 10 (by simp);obtain ⟨gb,k3,j2⟩:=z.b l6 he;rw [if_pos (by rfl)];refine CD (ok:=fun _=>True) W _ _ (by rfl) w.heap.size ch [n] (v 8) (v 10) (by rfl) (by rfl) (z.c1 h8 he) (by rw [k3];exact Dt j2) hW.size (by have:=SO.out.cl;simp;omega) ?_;intro v9 w9 ho hg _;exact D.out _ v9 _ (by rfl) (Ad hW hg hW.size (fun k hk=>Bg (z.c1 h8 he) hk)) (z.s11 h8 he (z.n21 he) (z.n22 (z.n21 he)) ho hg)
  refine zg.cons rfl (fun e v W K z hW he E D=>?_) ?_
  ·simp only [za] at E D⊢;go_simp;go_at_call 108;refine (cloneL_calls _ (i5.out.below hW) H1.out (by omega)).mono ?_;rintro e9 w9 ⟨v9,rfl,hE,hO⟩;exact D.out _ v9 _ (by rfl) (hW.trans hE) ((z.keep hE).s16 (z.n21' he) (z.n22 (z.n21' he)) (hO.mono hW.size))
  refine zg.cons rfl (fun e v W K z hW he E D=>?_) ?_
  ·simp only [za] at E D⊢;go_simp;exact D.out _ _ _ (by rfl) (hW.alloc _) ((z.keep ((zb.refl W).alloc _)).s17 (z.n19 he) (z.n20 (z.n19 he)) hW.size (zF.new _))
  refine zg.cons rfl (fun e v W K z hW he E D=>?_) ?_
  ·simp only [za] at E D⊢;have L:e 17=true:=zn E [17] (by kernel_rfl) 17 (by simp);obtain ⟨gm,I,g9,O⟩:=z.mm L;rw [he] at O;obtain ⟨w9,f5,d5,b1⟩:=run_add O n 79 Tryz.underlying79;have n1:(Instr.mapUpdate 79 (v 17) (.int .i64 n) (.bool true)).run Tryz.prog W=.ok () w9:=by rw [I];exact f5
   have HJ:=zh (z.s19 (x:=undef) L I O (z.n22 (z.n21'' (z.n20 he))) (by have:=d5;rwa [ins_new (by simp)] at this) b1 g9);clear f5 d5 O I;go_simp;exact D.out _ undef _ (by rfl) HJ.out.ext HJ.out
  refine zg.cons rfl (fun e v W K z hW he E D=>?_) ?_
  ·simp only [za] at E D⊢;have l7:e 19=true:=zn E [19] (by kernel_rfl) 19 (by simp);go_simp;exact D.out _ (v 17) _ (by rfl) hW (z.s20 l7 (z.n21'' he) (z.n22 (z.n21'' he)))
  refine zg.cons rfl (fun e v W K z hW he E D=>?_) ?_
  ·simp only [za] at E D⊢;have b6:e 11=true:=zn E [11] (by kernel_rfl) 11 (by simp);have b7:e 16=true:=zn E [16] (by kernel_rfl) 16 (by simp);have g0:e 20=true:=zn E [20] (by kernel_rfl) 20 (by simp);obtain ⟨A1,c1,d6,_⟩:=Bd (z.ap b6);obtain ⟨A2,c2,d8,_⟩:=AI.of_own (z.c2 b7);have L:=z.d19 (z.d20 g0);obtain ⟨gm,I,_,_⟩:=z.mm L;have a9:=(z.mv g0).trans I;clear I;go_simp;exact D.out _ (.agg #[.int .i64 m.w,.int .i64 m.h,.int .i64 m.l,f,u,.slice At m.tasks.length ct,v 11,v 16,v 20]) _ (by simp [Act.put,d6,d8,a9]) hW (z.s21 ⟨b6,b7,g0⟩ rfl)
  refine zg.cons rfl (fun e v W K z hW he E D=>?_) ?_
  ·simp only [za] at E D⊢;have i7:e 21=true:=zn E [21] (by kernel_rfl) 21 (by simp);have k5:=z.bd i7;go_simp;exact D.out _ _ _ (by simp [Act.put,k5]) (hW.alloc _) ((z.keep ((zb.refl W).alloc _)).s22 i7 (z.n23 he) hW.size (zk.new _ _ _ rfl))
  refine zg.cons rfl (fun e v W K z hW he E D=>?_) ?_
  ·simp only [za] at E D⊢;have l8:e 22=true:=zn E [22] (by kernel_rfl) 22 (by simp);go_simp;exact D.out _ (v 22) _ (by rfl) hW (z.s23 l8)
  exact zg.nil
 case fin1=>
  intro v W z hW;have e1:=z.fin rfl;obtain ⟨gs,d9,m4,c8⟩:=z.bx rfl;obtain ⟨gm,I,g9,O⟩:=z.mm rfl;have a9:=(z.mv rfl).trans I;have e2:=e1.trans d9;rw [a9] at c8;have G:Hid (WO w W m (ch++[n]) vs f u (.slice At m.tasks.length ct) gs gm (v 11) (v 16) [n]):=⟨z.ext,m4,g9,c8,z.ap rfl,z.c2 rfl,by simpa using O⟩;generalize v 11=v1 at*;generalize v 16=v2 at*;rw [e2,d9];clear z c8 O a9 I d9 e1 e2;have p6:=run_range_map (P:=Tryz.prog) W 79 3 4 gu _ us.length Tryz.underlying79 ((HS.out.ext hW).us);have j0:Hid (RW w (W.alloc (.mapIter (some gu) us.length #[] us.length)) m (ch++[n]) vs f u (.slice At m.tasks.length ct) gs gm v1 v2 [n] W.heap.size gu us n #[] us.length):=⟨G.out.keep ((zb.refl W).alloc _),Fu _ _,hW.size,EG _,((HS.out.ext hW).us).below ((zb.refl W).alloc _),fun x=>by simp⟩;have m5:gu<w.heap.size:=zd HS.out.us;have p5:=r8 W hW
  go_wp2_with fail
  generalize W.heap.size=r at*
  go_loopg [6] (leftN us.length #[]) (fun gk s6 wr=>∃us2 seen c0,gk=leftN us.length seen/\Hid (RW w wr m (ch++[n]) vs f u (.slice At m.tasks.length ct) gs gm v1 v2 us2 r gu us n seen c0))
  case atStart=>exact ⟨[n],#[],us.length,rfl,j0⟩
  clear j0
  case round=>
   obtain ⟨us2,seen,c0,rfl,hR⟩:=hrel;rcases set_next (P:=Tryz.prog) hR.out.old hR.out.it hR.out.hc with ⟨f3,h9⟩ | ⟨i,hi,m7,w1,g5,h9,m3⟩
   ·have d4:Hid (∀x,x∈us2↔x=n\/x∈us):=fun x=>by rw [hR.out.mem];exact mem_all f3
    have G:=zh hR.out.wo;have a2:=zh (WO.st HS.out f6.out hR.out.wo V.out);have b3:=hR.out.wo.ext
    go_wp2_with fail
    clear hR f3 h9;obtain ⟨wk,rfl⟩:∃wk:World,wk=wr:=⟨_,rfl⟩;refine (Bh _ a2.out (by omega)).mono ?_;rintro e wt ⟨T,e3⟩;have e3:zb wk wt:=e3 ▸ zb.refl _;obtain ⟨k,hk⟩:∃k,ps.length=k+1:=⟨ps.length - 1,by omega⟩;have j8:(ps.length:Int) - 1=(k:Int):=by omega
    rw [j8] at T;subst T;have G:=zh (G.out.keep e3);have b3:=G.out.ext;clear a2 e3 j8;have h6:k<ps.length:=by omega
    obtain ⟨up,k2,h5⟩:=f6.out k _ (EE h6);obtain ⟨p,e6⟩:=zad (ps[k]);rw [<-e6] at h5;have p3:p.length<=1000:=by rw [e6];exact SO.out.pp _ (EH h6)
    have l3:=zh e6;clear e6;have l4:=zh h5;clear h5;have k8:vs.length=k+1:=by have:=V.out;omega
    obtain ⟨b2,cp2,n3,g6,a3⟩:=World.ownsRow.form G.out.ps (by omega);subst n3;have j4:wt.cell? ⟨b2,k,none⟩=some up:=by rw [World.ownsRow.cellAt G.out.ps k (by omega)];exact k2
    have hfz:wt.frozen? ⟨b2,k,none⟩=false:=World.ownsRow.frozenAt G.out.ps k;have rup:=zb.rule j4;have a6:wt.cell? ⟨gs,7,none⟩=some (.slice (some ⟨b2,0,none⟩) vs.length cp2):=G.out.blk.cell rfl;have e5:gs<wt.heap.size:=zd G.out.blk;have j6:gs≠b2:=fun e=>CG G.out.blk G.out.ps (by decide) (by rw [e];rfl)
    have l5:=zh k8;have o1:(k:Int)<(vs.length:Int):=by omega
    have o0:(0:Int)<=(k:Int):=by omega
    have n8:=own_capL G.out.ps;clear j4 k2 hk k8
    go_wp2_with fail
    refine EW (S:=(fun W=>zb w W/\W.cell? ⟨gs,7,none⟩=some (.slice (some ⟨b2,0,none⟩) vs.length cp2))) (by kernel_rfl) (⟨b3.drew,a6⟩) fun zH=>?_;refine zf 0 zH ?_;refine zf 1 zH ?_;refine zf 2 zH ?_;refine zf 3 zH ?_;refine zf 4 zH ?_;refine zf 5 zH ?_;refine zf 6 zH ?_;refine zf 7 zH ?_;refine zf 8 zH ?_;refine zf 9 zH ?_;refine zf 10 zH ?_;refine zf 13 zH ?_;simp only [za,ED];refine BJ [11,12,14,15,16,17] (fun e v W=>J7 wt b2 k p n up e v W) (F:=?F16) (by kernel_rfl) (by kernel_rfl) (by decide) zH (fun v=>?hF16) ?init16 (by kernel_rfl) ?steps16 ?fin16
    case hF16=>(simp only [zM,Cc,List.getElem?_toArray,List.getElem?_cons_succ,List.getElem?_cons_zero,Option.bind,Act.put,List.setIfInBounds_toArray,List.set_cons_succ,List.set_cons_zero];rfl)
    case init16=>
     intro e v he;exact J7.init he
    case steps16=>
     refine zg.cons rfl (fun e v W K z hW he E D=>?_) ?_
     ·simp only [za] at E D⊢;have hE:=z.ext (z.n17 (z.n15 (z.n12 he)));have m1:=rup W hE;go_simp;exact D.out _ up _ (by rfl) hW (z.s11)
     refine zg.cons rfl (fun e v W K z hW he E D=>?_) ?_
     ·simp only [za] at E D⊢;have b6:e 11=true:=zn E [11] (by kernel_rfl) 11 (by simp);have Q:=z.n15 he;have L:=z.n17 Q;have hE:=z.ext L;have d6:=z.l b6;go_simp;go_at_call 46;refine (DQ _ (l4.out.below (b3.trans hE)) (by omega)).mono ?_;rintro e9 w9 ⟨v9,rfl,hM⟩;exact D.out _ v9 _ (by simp [Act.put,d6]) ⟨hW.1.trans hM.ext,hM.ext.cell hW.2⟩ (z.s12 L Q b6 hM.ext (hM.own.mono hE.size))
     refine zg.cons rfl (fun e v W K z hW he E D=>?_) ?_
     ·simp only [za] at E D⊢;have Q:=z.n15' he;have L:=z.n17 Q;go_simp;exact D.out _ _ _ (by rfl) ⟨hW.1.alloc _,((zb.refl W).alloc _).cell hW.2⟩ (z.s14 L Q ((zb.refl W).alloc _) (zr _ _ _ rfl))
     refine zg.cons rfl (fun e v W K z hW he E D=>?_) ?_
     ·simp only [za] at E D⊢;have f9:e 12=true:=zn E [12] (by kernel_rfl) 12 (by simp);have i6:e 14=true:=zn E [14] (by kernel_rfl) 14 (by simp);have L:=z.n17 he;obtain ⟨gb,k4,j3⟩:=z.b i6 he;have hE:=z.ext L;rw [if_pos (by rfl)];refine CD (ok:=fun _=>True) W _ _ (by rfl) wt.heap.size p [n] (v 12) (v 14) (by rfl) (by rfl) (z.c f9 he) (by rw [k4];exact Dt j3) hE.size (by simp;omega) ?_;intro v9 w9 ho hg _;have a1:zb wt w9:=Ad hE hg hE.size (fun k hk=>Bg (z.c f9 he) hk);exact D.out _ v9 _ (by rfl) ⟨b3.trans a1,a1.cell a6⟩ (z.s15 L f9 i6 a1 ho)
     refine zg.cons rfl (fun e v W K z hW he E D=>?_) ?_
     ·simp only [za] at E D⊢;go_simp;exact D.out _ _ _ (by rfl) hW z.s16
     refine zg.cons rfl (fun e v W K z hW he E D=>?_) ?_
     ·simp only [za] at E D⊢;have Q:e 15=true:=zn E [15] (by kernel_rfl) 15 (by simp);have b7:e 16=true:=zn E [16] (by kernel_rfl) 16 (by simp);have hE:=z.ext he;have i8:=z.ap Q he;obtain ⟨A9,c9,d7,_⟩:=Bd i8;rw [show (p++[n]).length=p.length+1 from by simp] at d7;have d8:=z.ix b7;have m1:=rup W hE;have p1:W.frozen? ⟨b2,k,none⟩=false:=(hE.frozen (p:=⟨b2,k,none⟩) a3).trans hfz;have HJ:=zh (z.s17 (x:=undef) he Q b7 rfl);have HE:=zh (show zb w (W.setCell ⟨b2,k,none⟩ (v 15))/\(W.setCell ⟨b2,k,none⟩ (v 15)).cell? ⟨gs,7,none⟩=some (.slice (some ⟨b2,0,none⟩) vs.length cp2) from ⟨(b3.trans hE).setCell g6 _,(EV (w:=W) (EP W _ _ gs (fun e=>j6 e))).trans hW.2⟩);rw [d7] at HJ HE;go_simp;exact D.out _ undef _ (by simp [Act.put,d7,d8]) HE.out HJ.out
     exact zg.nil
    case fin16=>
     intro v W z hW;obtain ⟨W9,a1,i9,g4⟩:=z.st rfl;generalize v 15=x15 at*;have c5:=zh ((G.out.keep a1).store (k:=k) (x:=x15) g6);have b8:Hid (∀(i:Nat) (x:List Int),(ps.set k (p++[n]))[i]?=some x->∃u,(vs.set k x15)[i]?=some u/\zj W (fun b=>(ok b/\b<w.heap.size)\/wt.heap.size<=b) u x):=by rw [g4];exact paths_set f6.out V.out G.out a1 g6 a3 (by omega) (AI.of_own i9)
     rw [<-g4] at c5;clear z i9 g4 G a6 rup a1;have G:=c5;clear c5;have c7:Cm ps n=ps.set k (p++[n]):=by unfold Cm;rw [show ps.length - 1=k from by have:=V.out;have:=l5.out;omega,l3.out];simp [h6]
     rw [<-c7] at b8;have n6:=zh c7;clear c7;have e0:Hid ((vs.set k x15).length=(Cm ps n).length):=by have:=V.out;show _=_;unfold Cm;simp;omega
     have k9:Hid ((vs.set k x15).length=vs.length):=by show _=_;simp
     have g5:Hid ((Cm ps n).length=ps.length):=by show _=_;unfold Cm;simp
     generalize vs.set k x15=vs1 at*;have f4:Hid (∀b,((ok b/\b<w.heap.size)\/wt.heap.size<=b)->ok b\/w.heap.size<=b):=fun b hb=>by rcases hb with h | h;exact .inl h.1;exact .inr (EI b3.size h)
     have a2:=zh (WO.st2 HS.out.maze G.out e0.out b8.out f4.out);have i2:=G.out.ext;have k7:Hid (b2<wt.heap.size):=a3;have h4:Hid (gs<wt.heap.size):=e5;have f2:0<(Cm ps n).length:=by have:=g5.out;omega
     have a6:W.cell? ⟨gs,7,none⟩=some (.slice (some ⟨b2,0,none⟩) vs.length cp2):=G.out.blk.cell rfl;have n9:=r5 W i2;obtain ⟨b,hb⟩:=zad (finB m (Cm ps n));have HB:=zh hb;clear hb;have j5:∀q:Nat,Calls Tryz.prog 87 #[.pointer (some ⟨gs,0,none⟩)] (W.drewN q) fun e w'=>e=.returned (.bool b)/\zK (W.drewN q) w':=fun q=>by rw [HB.out];exact Ei _ (a2.out.ext ((zb.refl W).drewN q)) SO1.out f2
     have f7:=zh j5;clear j5;clear f2
     cases b with
     | false=>
      have U:BQ m ps n=Cm ps n:=by unfold BQ;rw [if_neg (fun h=>by rw [<-HB.out] at h;cases h.1)]
      have b5:=zh U;clear U
      go_wp2_with fail
      go_quiet ((go_at_call 87;refine (f7.out _).mono ?_;rintro e w9 ⟨T,nd,rfl⟩;exact ⟨T,⟨_,World.drewN_drewN _ _ _⟩⟩))
      go_wp2_with fail
      go_ret;exact ⟨_,rfl,i2.drewN _,us2,d4.out,gs,_,_,_,_,_,gm,rfl,by rw [b5.out];exact a2.out.ext ((zb.refl W).drewN _)⟩
     | true=>
      by_cases h7:vs.length<m.tasks.length
      ·have U:BQ m ps n=Cm ps n++[[]]:=by unfold BQ;rw [if_pos ⟨HB.out.symm,by have:=V.out;omega⟩]
       have b5:=zh U;clear U;have E:decide ((vs.length:Int)<(m.tasks.length:Int))=true:=EJ (by omega)
       go_wp2_with fail
       go_quiet ((go_at_call 87;refine (f7.out _).mono ?_;rintro e w9 ⟨T,nd,rfl⟩;exact ⟨T,⟨_,World.drewN_drewN _ _ _⟩⟩))
       generalize j1:W.drewN nq=W4;have g3:zb W W4:=by rw [<-j1];exact (zb.refl W).drewN _
       clear j1;have a5:=zh (G.out.keep g3);have J:=zh (a5.out.keep ((zb.refl W4).alloc (.cells #[.slice none 0 0] 23)));have p9:=a5.out.ext;have o5:W4.cell? ⟨gs,7,none⟩=some (.slice (some ⟨b2,0,none⟩) vs.length cp2):=a5.out.blk.cell rfl;have n5:w.heap.size<=(W4.alloc (.cells #[.slice none 0 0] 23)).heap.size:=J.out.ext.size;have p8:vs1.length<=6:=by have:=k9.out;omega
       go_wp2_with (at_builtin;refine BA (ok:=fun _=>True) rfl _ _ _ rfl w.heap.size vs1 [.slice none 0 0] _ _ rfl rfl J.out.ps (row_nil1 (g:=W4.heap.size) (zr _ _ _ rfl) trivial) (by simp [Value.oneCell']) n5 (by simp;omega) ?_)
       intro v' w6 i0 e4 _;have c4:=zh (J.out.app i0 e4.out);have g7:zk w6 gs 100 _:=(e4.out.block gs (zd J.out.blk) (fun e=>CG J.out.blk J.out.ps (by decide) e.symm)).trans J.out.blk;have o6:=g7.cell (k:=7) rfl;have o9:=g7.frozen 7
       have b9:Hid (zW (fun b=>(ok b/\b<w.heap.size)\/wt.heap.size<=b) W (w6.setCell ⟨gs,7,none⟩ v')):=fun b hb h7=>by
        have k1:b≠gs/\b≠b2:=by
         have h1:=G.out.hs;have h2:=h4.out;have h3:=k7.out;rcases hb with h | h <;> omega
        rw [EP w6 ⟨gs,7,none⟩ v' b k1.1,e4.out.block b (Fh h7 (g3.trans ((zb.refl W4).alloc _)).size) (fun e=>k1.2 (by have e':some b=some b2:=e;injection e'))];exact (g3.trans ((zb.refl W4).alloc (.cells #[.slice none 0 0] 23))).block b h7
       have e8:=zh (paths_app b8.out e0.out b9.out);have f1:=zh (WO.st2 HS.out.maze c4.out (by have:=e0.out;simp;omega) e8.out f4.out);obtain ⟨A6,c6,k6,_⟩:=AI.of_own i0;subst k6;have j9:(vs1++[Value.slice none 0 0]).length=vs1.length+1:=by simp
       rw [j9] at c4 f1;clear j9;clear i0 e4 g7 b9 e8 J a5 a2
       go_wp2_with fail
       go_ret;exact ⟨_,rfl,c4.out.ext,us2,d4.out,gs,_,_,_,_,_,gm,rfl,by rw [b5.out];exact f1.out⟩
      ·have U:BQ m ps n=Cm ps n:=by unfold BQ;rw [if_neg (fun h=>by have:=h.2;have:=V.out;omega)]
       have b5:=zh U;clear U;have E:decide ((vs.length:Int)<(m.tasks.length:Int))=false:=EK (by omega)
       go_wp2_with fail
       go_quiet ((go_at_call 87;refine (f7.out _).mono ?_;rintro e w9 ⟨T,nd,rfl⟩;exact ⟨T,⟨_,World.drewN_drewN _ _ _⟩⟩))
       go_wp2_with fail
       go_ret;exact ⟨_,rfl,i2.drewN _,us2,d4.out,gs,_,_,_,_,_,gm,rfl,by rw [b5.out];exact a2.out.ext ((zb.refl W).drewN _)⟩
   ·obtain ⟨M,a7,a4⟩:=hR.out.step (i:=i) m5 g5;generalize setBlock w1 r (.mapIter (some gu) us.length (seen.push i) us.length)=W2 at*;have n4:=M.ext;have m2:W2.cell? ⟨gs,8,none⟩=some (.map (some gm)):=M.blk.cell rfl
    go_wp2_with (at_mapUpdate;refine CC rfl _ _ _ _ rfl Tryz.underlying79 gm us2 us[i] rfl rfl rfl M.set ?_)
    intro w9 d5 b1;have m0:Hid (RW w w9 m (ch++[n]) vs f u (.slice At m.tasks.length ct) gs gm v1 v2 (ins us2 us[i]) r gu us n (seen.push i) us.length):=⟨M.add d5 b1,(b1.block r (zd a7) (fun e=>by injection e with e;exact iter_ne a7 M.set (fun _ _ _ _ h=>by cases h) e.symm)).trans a7,hR.out.hr,EG _,(b1.block gu (zd a4) (fun e=>by injection e with e;have:=M.hm;omega)).trans a4,fun x=>by rw [mem_ins,hR.out.mem];exact mem_step hi⟩;clear d5 b1 M a7 a4 n4 m2 hR h9 m3
    go_wp2_with fail
    go_roundg (leftN us.length (seen.push i))
    case measure=>exact leftN_step hi m7
    case rel=>exact ⟨_,_,_,rfl,m0⟩
end
end Go.Proofs.YthbjngbhbbkkgaaGreat
