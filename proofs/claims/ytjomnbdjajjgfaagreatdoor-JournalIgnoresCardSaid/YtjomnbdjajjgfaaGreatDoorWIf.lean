import Derived.Test.YtjomnbdjajjgfaaGreatDoorWIe
import Derived.Deep.LoopGhost
import Derived.Deep.DeepCutAuto
set_option linter.unusedVariables false
set_option linter.unusedSimpArgs false
set_option maxRecDepth 100000
set_option maxHeartbeats 16000000
namespace Go.Proofs.YtjomnbdjajjgfaaGreatDoor
variable {seen:Array Nat} {cs:Array Value} {b:Bool} {ps:List (List Int)} {l:List Int} {vs xs:List Value} {c c0 g gu i r since:Nat} {ok ok2:Nat->Prop} {o:Obj} {vc vp x:Value} {w1:World}
section
open Go.RowKit
open Go.ChangeMaps (setBlock)
attribute [local go_sem ↓] Go.wp_at_zero Go.wp_at_succ
theorem zu {md:Region.Mode} {es:Array Edge} {e:Nat->Bool} (G:∀d∈es,Region.binds md d=true->e d.on=true) (ks:List Nat) (h:(ks.all fun k=>es.toList.any fun d=>Region.binds md d && decide (d.on=k))=true):∀k∈ks,e k=true:=by
 intro k I;obtain ⟨d,E,D⟩:=EZ.1 (Fa.1 h k I);simp only [Ek,Ei] at D;rw [<-D.2];exact G d (by simpa using E) D.1
section
variable {W W':World} {B:Nat}
theorem zL.ext {v:Value} (h:zL W B v l) (d:za W W'):zL W' B v l:=h.kept (row:=none) ⟨d.os,d.tape,d.output,d.size,fun i D _=>d.block i D⟩ (by cases h:v.ownBlock <;> simp)
theorem OwnL.ext {v:Value} (h:OwnL W B v vs) (d:za W W'):OwnL W' B v vs:=World.ownsRow.kept h (row:=none) ⟨d.os,d.tape,d.output,d.size,fun i D _=>d.block i D⟩ (by cases h:v.ownBlock <;> simp)
theorem own_ne {e e':TypeId} {v v':Value} {n n':Nat} {xs':List Value} {B':Nat} (h:W.ownsRow B e 1 v n xs) (E:W.ownsRow B' e' 1 v' n' xs') (D:e≠e'):v.ownBlock=none\/v.ownBlock≠v'.ownBlock:=by
 rcases h.2 with ⟨rfl,_⟩ | ⟨g,cap,cur,rfl,_,G,_⟩
 ·exact .inl rfl
 ·refine .inr fun e=>?_
  rcases E.2 with ⟨rfl,_⟩ | ⟨g',cap',cur',rfl,_,d,_⟩
  ·cases e
  ·have e:some g=some g':=e;injection e with e;subst e;rw [G] at d;injection d with d;injection d with _ ht;exact D ht
theorem Bi {e:TypeId} {v:Value} {n:Nat} (h:W.ownsRow B e 1 v n xs) (d:zF W g l):v.ownBlock=none\/v.ownBlock≠some g:=by
 rcases h.2 with ⟨rfl,_⟩ | ⟨g',cap,cur,rfl,_,D,_⟩
 ·exact .inl rfl
 ·refine .inr fun e=>?_
  have e:some g'=some g:=e;injection e with e;subst e;unfold zF at d;rw [D] at d;injection d with d;cases d
end
theorem ints_one {W:World} {x:Int} (h:W.cell? ⟨g,0,none⟩=some (.int .i64 x)):zk W (fun _=>True) (.slice (some ⟨g,0,none⟩) 1 1) [x]:=
 ⟨some ⟨g,0,none⟩,1,rfl,DY _,rfl,fun _=>⟨g,0,rfl,trivial,fun j u d=>by
  match j,d with
  | 0,d=>
   have:u=.int .i64 x:=by simpa using d.symm
   subst this;exact h⟩⟩
structure JW (w:World) (ch:List Int) (n:Int) (vsp:List Value) (m:MZ) (f u t:Value) (e:Nat->Bool) (v:Nat->Value) (W:World):Prop where
 ext:za w W
 c1:e 8=true->e 11=false->zL W w.heap.size (v 8) ch
 b:e 10=true->e 11=false->∃g,v 10=.slice (some ⟨g,0,none⟩) 1 1/\W.cell? ⟨g,0,none⟩=some (.int .i64 n)
 ap:e 11=true->zL W w.heap.size (v 11) (ch++[n])
 c2:e 16=true->OwnL W w.heap.size (v 16) vsp
 mm:e 17=true->∃gu,v 17=.map (some gu)/\w.heap.size<=gu/\zF W gu (if e 19 then [n] else [])
 mv:e 20=true->v 20=v 17
 bd:e 21=true->v 21=.agg #[.int .i64 m.w,.int .i64 m.h,.int .i64 m.l,f,u,t,v 11,v 16,v 20]
 bx:e 22=true->∃gs,v 22=.pointer (some ⟨gs,0,none⟩)/\w.heap.size<=gs/\zl W gs 207 #[.int .i64 m.w,.int .i64 m.h,.int .i64 m.l,f,u,t,v 11,v 16,v 20]
 fin:e 23=true->v 23=v 22
 d11:e 11=true->e 8=true
 d19:e 19=true->e 17=true
 d20:e 20=true->e 19=true
 d21:e 21=true->e 11=true/\e 16=true/\e 20=true
 d22:e 22=true->e 21=true
 d23:e 23=true->e 22=true
theorem ff {C:Prop} (h:b=false) (a:b=true):C:=by rw [h] at a;cases a
section
variable {w W W':World} {ch:List Int} {n:Int} {vsp:List Value} {m:MZ} {f u t:Value} {e:Nat->Bool} {v:Nat->Value}
theorem JW.keep (h:JW w ch n vsp m f u t e v W) (d:za W W'):JW w ch n vsp m f u t e v W':=
 ⟨h.ext.trans d,fun a b=>(h.c1 a b).ext d,fun a b=>by obtain ⟨g,h1,h2⟩:=h.b a b;exact ⟨g,h1,d.cell h2⟩,fun a=>(h.ap a).ext d,fun a=>(h.c2 a).ext d,
  fun a=>by obtain ⟨g,h1,h2,h3⟩:=h.mm a;exact ⟨g,h1,h2,h3.below d⟩,h.mv,h.bd,fun a=>by obtain ⟨g,h1,h2,h3⟩:=h.bx a;exact ⟨g,h1,h2,h3.ext d⟩,h.fin,h.d11,h.d19,h.d20,h.d21,h.d22,h.d23⟩
theorem JW.s8 (h:JW w ch n vsp m f u t e v W) (d:e 11=false) (D:zL W w.heap.size x ch):JW w ch n vsp m f u t (Aw e 8 true) (Aw v 8 x) W:=by
 exact ⟨h.ext,fun _ _=>D,h.b,h.ap,h.c2,h.mm,h.mv,h.bd,h.bx,h.fin,fun _=>rfl,h.d19,h.d20,h.d21,h.d22,h.d23⟩
theorem JW.s10 (h:JW w ch n vsp m f u t e v W) (d:W.cell? ⟨g,0,none⟩=some (.int .i64 n)):JW w ch n vsp m f u t (Aw e 10 true) (Aw v 10 (.slice (some ⟨g,0,none⟩) 1 1)) W:=by
 exact ⟨h.ext,h.c1,fun _ _=>⟨g,rfl,d⟩,h.ap,h.c2,h.mm,h.mv,h.bd,h.bx,h.fin,h.d11,h.d19,h.d20,h.d21,h.d22,h.d23⟩
theorem JW.s11 (h:JW w ch n vsp m f u t e v W) (J:e 8=true) (d:e 11=false) (D:e 21=false) (E:e 22=false) (M:zL W' w.heap.size x (ch++[n])) (G:Hid (W.grownBy W' (v 8).ownBlock)):JW w ch n vsp m f u t (Aw e 11 true) (Aw v 11 x) W':=by
 have I:=h.c1 J d;refine ⟨?_,?_,?_,?_,?_,?_,?_,?_,?_,?_,fun _=>J,h.d19,h.d20,fun a=>⟨rfl,(h.d21 a).2⟩,h.d22,h.d23⟩
 ·exact Ao h.ext G h.ext.size (fun k K=>AO I K)
 ·exact fun _ h=>by cases h
 ·exact fun _ h=>by cases h
 ·exact fun _=>M
 ·exact fun a=>World.ownsRow.kept (h.c2 a) G.out (own_ne (h.c2 a) I (by decide))
 ·intro a;obtain ⟨gu,h1,h2,h3⟩:=h.mm a;refine ⟨gu,h1,h2,(G.out.block gu (zc h3) (fun e=>?_)).trans h3⟩;rcases Bi I h3 with h4 | h4
  ·rw [h4] at e;cases e
  ·exact h4 e.symm
 ·exact h.mv
 ·exact fun a=>ff D a
 ·exact fun a=>ff E a
 ·exact h.fin
theorem JW.s16 (h:JW w ch n vsp m f u t e v W) (d:e 21=false) (D:e 22=false) (E:OwnL W w.heap.size x vsp):JW w ch n vsp m f u t (Aw e 16 true) (Aw v 16 x) W:=by
 exact ⟨h.ext,h.c1,h.b,h.ap,fun _=>E,h.mm,h.mv,fun a=>ff d a,fun a=>ff D a,h.fin,h.d11,h.d19,h.d20,fun a=>⟨(h.d21 a).1,rfl,(h.d21 a).2.2⟩,h.d22,h.d23⟩
theorem JW.s17 (h:JW w ch n vsp m f u t e v W) (d:e 19=false) (D:e 20=false) (E:w.heap.size<=g) (G:zF W g []):JW w ch n vsp m f u t (Aw e 17 true) (Aw v 17 (.map (some g))) W:=by
 exact ⟨h.ext,h.c1,h.b,h.ap,h.c2,fun _=>⟨g,rfl,E,by show zF _ _ (if e 19=true then [n] else []);rw [d];exact G⟩,fun a=>ff D a,h.bd,h.bx,h.fin,h.d11,fun _=>rfl,h.d20,h.d21,h.d22,h.d23⟩
theorem JW.s19 (h:JW w ch n vsp m f u t e v W) (G:e 17=true) (J:v 17=.map (some gu)) (E:zF W gu []) (I:e 22=false) (K:zF W' gu [n]) (d:W.grownBy W' (some gu)) (D:w.heap.size<=gu):JW w ch n vsp m f u t (Aw e 19 true) (Aw v 19 x) W':=by
 refine ⟨?_,?_,?_,?_,?_,?_,?_,?_,?_,?_,h.d11,fun _=>G,fun _=>rfl,h.d21,h.d22,h.d23⟩
 ·exact AU h.ext d h.ext.size D
 ·exact fun a b=>World.ownsRow.kept (h.c1 a b) d (Bi (h.c1 a b) E)
 ·intro a b;obtain ⟨g,h1,h2⟩:=h.b a b;refine ⟨g,h1,(World.grownBy.cell d h2 (fun e=>?_))⟩;injection e with e;have:g=gu:=e;subst this;unfold zF at E;unfold World.cell? at h2;simp [E,mapObj] at h2
 ·exact fun a=>World.ownsRow.kept (h.ap a) d (Bi (h.ap a) E)
 ·exact fun a=>World.ownsRow.kept (h.c2 a) d (Bi (h.c2 a) E)
 ·exact fun _=>⟨gu,J,D,K⟩
 ·exact h.mv
 ·exact h.bd
 ·exact fun a=>ff I a
 ·exact h.fin
theorem JW.s20 (h:JW w ch n vsp m f u t e v W) (d:e 19=true) (D:e 21=false) (E:e 22=false):JW w ch n vsp m f u t (Aw e 20 true) (Aw v 20 (v 17)) W:=by
 exact ⟨h.ext,h.c1,h.b,h.ap,h.c2,h.mm,fun _=>rfl,fun a=>ff D a,fun a=>ff E a,h.fin,h.d11,h.d19,fun _=>d,fun a=>⟨(h.d21 a).1,(h.d21 a).2.1,rfl⟩,h.d22,h.d23⟩
theorem JW.s21 (h:JW w ch n vsp m f u t e v W) (d:e 11=true/\e 16=true/\e 20=true) (D:x=.agg #[.int .i64 m.w,.int .i64 m.h,.int .i64 m.l,f,u,t,v 11,v 16,v 20]):JW w ch n vsp m f u t (Aw e 21 true) (Aw v 21 x) W:=by
 exact ⟨h.ext,h.c1,h.b,h.ap,h.c2,h.mm,h.mv,fun _=>D,h.bx,h.fin,h.d11,h.d19,h.d20,fun _=>d,fun _=>rfl,h.d23⟩
theorem JW.s22 {gs:Nat} (h:JW w ch n vsp m f u t e v W) (d:e 21=true) (D:e 23=false) (G:w.heap.size<=gs) (E:zl W gs 207 #[.int .i64 m.w,.int .i64 m.h,.int .i64 m.l,f,u,t,v 11,v 16,v 20]):JW w ch n vsp m f u t (Aw e 22 true) (Aw v 22 (.pointer (some ⟨gs,0,none⟩))) W:=by
 exact ⟨h.ext,h.c1,h.b,h.ap,h.c2,h.mm,h.mv,h.bd,fun _=>⟨gs,rfl,G,E⟩,fun a=>ff D a,h.d11,h.d19,h.d20,h.d21,fun _=>d,fun _=>rfl⟩
theorem JW.s23 (h:JW w ch n vsp m f u t e v W) (d:e 22=true):JW w ch n vsp m f u t (Aw e 23 true) (Aw v 23 (v 22)) W:=by
 exact ⟨h.ext,h.c1,h.b,h.ap,h.c2,h.mm,h.mv,h.bd,h.bx,fun _=>rfl,h.d11,h.d19,h.d20,h.d21,h.d22,fun _=>d⟩
theorem JW.init {w:World} {ch:List Int} {n:Int} {vsp:List Value} {m:MZ} {f u t:Value} {e:Nat->Bool} {v:Nat->Value} (he:∀j∈[8,10,11,16,17,19,20,21,22,23],e j=false):JW w ch n vsp m f u t e v w.drew:=
 ⟨CZ,fun a=>ff (he 8 (by simp)) a,fun a=>ff (he 10 (by simp)) a,fun a=>ff (he 11 (by simp)) a,fun a=>ff (he 16 (by simp)) a,fun a=>ff (he 17 (by simp)) a,fun a=>ff (he 20 (by simp)) a,fun a=>ff (he 21 (by simp)) a,
  fun a=>ff (he 22 (by simp)) a,fun a=>ff (he 23 (by simp)) a,fun a=>ff (he 11 (by simp)) a,fun a=>ff (he 19 (by simp)) a,fun a=>ff (he 20 (by simp)) a,fun a=>ff (he 21 (by simp)) a,fun a=>ff (he 22 (by simp)) a,fun a=>ff (he 23 (by simp)) a⟩
theorem notT {c:Bool} (h:b=true->c=true) (d:c=false):b=false:=by
 cases b with
 | false=>rfl
 | true=>exact absurd (h rfl) (by rw [d];simp)
theorem JW.n11 (h:JW w ch n vsp m f u t e v W) (d:e 8=false):e 11=false:=notT h.d11 d
theorem JW.n21 (h:JW w ch n vsp m f u t e v W) (d:e 11=false):e 21=false:=notT (fun a=>(h.d21 a).1) d
theorem JW.n21' (h:JW w ch n vsp m f u t e v W) (d:e 16=false):e 21=false:=notT (fun a=>(h.d21 a).2.1) d
theorem JW.n21'' (h:JW w ch n vsp m f u t e v W) (d:e 20=false):e 21=false:=notT (fun a=>(h.d21 a).2.2) d
theorem JW.n22 (h:JW w ch n vsp m f u t e v W) (d:e 21=false):e 22=false:=notT h.d22 d
theorem JW.n23 (h:JW w ch n vsp m f u t e v W) (d:e 22=false):e 23=false:=notT h.d23 d
theorem JW.n20 (h:JW w ch n vsp m f u t e v W) (d:e 19=false):e 20=false:=notT h.d20 d
theorem JW.n19 (h:JW w ch n vsp m f u t e v W) (d:e 17=false):e 19=false:=notT h.d19 d
end
structure WO (w W:World) (m:MZ) (ch:List Int) (vsp:List Value) (f u t:Value) (gs gm:Nat) (v1 v2:Value) (us:List Int):Prop where
 ext:za w W
 hs:w.heap.size<=gs
 hm:w.heap.size<=gm
 blk:zl W gs 207 (stCells m f u t v1 v2 gm)
 ch:zL W w.heap.size v1 ch
 ps:OwnL W w.heap.size v2 vsp
 set:zF W gm us
section
variable {w W W':World} {m:MZ} {ch us us':List Int} {vsp:List Value} {f u t v1 v2:Value} {gs gm:Nat}
theorem WO.keep (h:WO w W m ch vsp f u t gs gm v1 v2 us) (d:za W W'):WO w W' m ch vsp f u t gs gm v1 v2 us:=
 ⟨h.ext.trans d,h.hs,h.hm,h.blk.ext d,h.ch.ext d,h.ps.ext d,h.set.below d⟩
theorem blk_set_ne {W:World} {g':Nat} {t:TypeId} (h:zl W g t cs) (d:zF W g' l):g≠g':=by
 rintro rfl;unfold zl at h;unfold zF mapObj at d;rw [h] at d
 cases d
theorem WO.add (h:WO w W m ch vsp f u t gs gm v1 v2 us) (D:zF W' gm us') (d:W.grownBy W' (some gm)):WO w W' m ch vsp f u t gs gm v1 v2 us':=
 ⟨AU h.ext d h.ext.size h.hm,h.hs,h.hm,(d.block gs (zc h.blk) (fun e=>by injection e with e;exact blk_set_ne h.blk h.set e)).trans h.blk,
  World.ownsRow.kept h.ch d (Bi h.ch h.set),World.ownsRow.kept h.ps d (Bi h.ps h.set),D⟩
theorem grown_iter {W:World} (h:w1=W\/w1=W.drew):W.grownBy (setBlock w1 r o) (some r):=by
 have h1:w1.heap=W.heap/\w1.os=W.os/\w1.tape=W.tape/\w1.output=W.output:=by rcases h with rfl | rfl <;> exact ⟨rfl,rfl,rfl,rfl⟩
 refine ⟨h1.2.1,h1.2.2.1,h1.2.2.2,by simp [setBlock,h1.1],fun k _ d=>?_⟩;rw [DA _ (fun e=>d (by rw [e])),h1.1]
theorem iter_ne {W:World} {k:Nat} (h:IterIs W r g since seen c0) (D:W.heap[k]?=some o) (E:∀a b c d,o≠.mapIter a b c d):k≠r:=by
 rintro rfl;unfold IterIs at h;rw [D] at h;injection h with h;exact E _ _ _ _ h
theorem own_iter_ne {W:World} {B:Nat} {e:TypeId} {v:Value} {n:Nat} (h:W.ownsRow B e 1 v n xs) (D:IterIs W r g since seen c0):v.ownBlock=none\/v.ownBlock≠some r:=by
 rcases h.2 with ⟨rfl,_⟩ | ⟨g',cap,cur,rfl,_,d,_⟩
 ·exact .inl rfl
 ·refine .inr fun e=>?_
  have e:some g'=some r:=e;injection e with e;exact iter_ne D d (fun _ _ _ _ h=>by cases h) e
theorem own_capL {w:World} {B:Nat} (h:OwnL w B (.slice (some ⟨g,0,none⟩) vs.length c) vs):vs.length<=c:=BE h
theorem WO.st {ch0 us0:List Int} (h0:Bd w ok g m ch0 ps us0 f u t vc vp gu) (d:∀(i:Nat) (x:List Int),ps[i]?=some x->∃u,vsp[i]?=some u/\zk w ok u x) (h:WO w W m ch vsp f u t gs gm v1 v2 us)
  (D:vsp.length=ps.length):Bd W (fun b=>ok b\/w.heap.size<=b) gs m ch ps us f u t v1 v2 gm:=
 Bd.make h.ext h0.maze (fun _ h=>.inl h) h.blk (.inr h.hs) ((Bv.of_own h.ch).weaken (fun _ h=>.inr h)) ⟨vsp,by rw [<-D];exact (Bv.of_own h.ps).weaken (fun _ h=>.inr h),fun i x I=>by
  obtain ⟨u,G,E⟩:=d i x I;exact ⟨u,G,(E.below h.ext).weaken (fun _ h=>.inl h)⟩⟩ (.inr h.hm) h.set
theorem mem_step {us:List Int} {n x:Int} (D:i<us.length):((x=n\/∃j,us[j]?=some x/\seen.contains j=true)\/x=us[i])↔(x=n\/∃j,us[j]?=some x/\(seen.push i).contains j=true):=by
 have d:∀j,(seen.push i).contains j=true↔seen.contains j=true\/j=i:=by
  intro j;simp
 constructor
 ·rintro ((h | ⟨j,h1,h2⟩) | h)
  ·exact .inl h
  ·exact .inr ⟨j,h1,(d j).2 (.inl h2)⟩
  ·exact .inr ⟨i,by rw [DW D,h],(d i).2 (.inr rfl)⟩
 ·rintro (h | ⟨j,h1,h2⟩)
  ·exact .inl (.inl h)
  ·rcases (d j).1 h2 with h3 | rfl
   ·exact .inl (.inr ⟨j,h1,h3⟩)
   ·rw [DW D] at h1;injection h1 with h1;exact .inr h1.symm
theorem mem_all {us:List Int} {n x:Int} (h:∀i,i<us.length->seen.contains i=true):(x=n\/∃j,us[j]?=some x/\seen.contains j=true)↔(x=n\/x∈us):=by
 constructor
 ·rintro (h1 | ⟨j,h1,_⟩)
  ·exact .inl h1
  ·exact .inr (List.mem_of_getElem? h1)
 ·rintro (h1 | h1)
  ·exact .inl h1
  ·obtain ⟨j,d,rfl⟩:=EE h1;exact .inr ⟨j,DW d,h j d⟩
structure RW (w W:World) (m:MZ) (ch:List Int) (vsp:List Value) (f u t:Value) (gs gm:Nat) (v1 v2:Value) (us2:List Int) (r gu:Nat) (us:List Int) (n:Int) (seen:Array Nat) (c0:Nat):Prop where
 wo:WO w W m ch vsp f u t gs gm v1 v2 us2
 it:IterIs W r gu us.length seen c0
 hr:w.heap.size<=r
 hc:us.length<=c0
 old:zF W gu us
 mem:∀x,x∈us2↔x=n\/∃i,us[i]?=some x/\seen.contains i=true
theorem RW.step {w W:World} {m:MZ} {ch us us2:List Int} {vsp:List Value} {f u t v1 v2:Value} {gs gm:Nat} {n:Int} (h:RW w W m ch vsp f u t gs gm v1 v2 us2 r gu us n seen c0) (I:gu<w.heap.size) (G:w1=W\/w1=W.drew):
  WO w (setBlock w1 r (.mapIter (some gu) us.length (seen.push i) us.length)) m ch vsp f u t gs gm v1 v2 us2/\IterIs (setBlock w1 r (.mapIter (some gu) us.length (seen.push i) us.length)) r gu us.length (seen.push i) us.length/\zF (setBlock w1 r (.mapIter (some gu) us.length (seen.push i) us.length)) gu us:=by
 have E:W.grownBy (setBlock w1 r (.mapIter (some gu) us.length (seen.push i) us.length)) (some r):=grown_iter G;have h1:w1.heap=W.heap:=by rcases G with rfl | rfl <;> rfl
 have D:∀(k:Nat) (o:Obj),W.heap[k]?=some o->(∀a b c d,o≠.mapIter a b c d)->k≠r:=fun k o J K=>iter_ne h.it J K
 refine ⟨⟨AU h.wo.ext E h.wo.ext.size h.hr,h.wo.hs,h.wo.hm,?_,World.ownsRow.kept h.wo.ch E (own_iter_ne h.wo.ch h.it),World.ownsRow.kept h.wo.ps E (own_iter_ne h.wo.ps h.it),?_⟩,?_,?_⟩
 ·exact (E.block gs (zc h.wo.blk) (fun e=>by injection e with e;exact D _ _ h.wo.blk (fun _ _ _ _ h=>by cases h) e)).trans h.wo.blk
 ·exact (E.block gm (zc h.wo.set) (fun e=>by injection e with e;exact D _ _ h.wo.set (fun _ _ _ _ h=>by cases h) e)).trans h.wo.set
 ·exact setBlock_same _ (by rw [h1];exact zc h.it)
 ·exact (E.block gu (zc h.old) (fun e=>by injection e with e;exact D _ _ h.old (fun _ _ _ _ h=>by cases h) e)).trans h.old
end
theorem paths_app {W W3:World} (D:∀(i:Nat) (x:List Int),ps[i]?=some x->∃u,vs[i]?=some u/\zk W ok2 u x) (G:vs.length=ps.length) (E:Ar ok2 W W3):
  ∀(i:Nat) (x:List Int),(ps++[[]])[i]?=some x->∃u,(vs++[.slice none 0 0])[i]?=some u/\zk W3 ok2 u x:=by
 intro i x d;by_cases h:i<ps.length
 ·rw [Ed h] at d;obtain ⟨u,J,I⟩:=D i x d;exact ⟨u,by rw [Ed (by omega)];exact J,I.keep E⟩
 ·rw [Ee (by omega)] at d
  have h0:i - ps.length=0:=by
   rcases EJ (i - ps.length) with h | h
   ·exact h
   ·rw [Es (by simp;omega)] at d;cases d
  rw [h0] at d;have:x=[]:=by simpa using d.symm
  subst this;exact ⟨_,by rw [Ee (by omega),G,h0];rfl,zk.nil _ _⟩
theorem row_nil1 {W:World} (h:W.cell? ⟨g,0,none⟩=some (.slice none 0 0)) (D:ok g):Bv W ok 1 (.slice (some ⟨g,0,none⟩) 1 1) [Value.slice none 0 0].length [.slice none 0 0]:=
 ⟨some ⟨g,0,none⟩,1,rfl,DY _,rfl,fun _=>⟨g,0,rfl,D,fun j u d=>by
  match j,d with
  | 0,d=>
   have:u=.slice none 0 0:=by simpa using d.symm
   subst this;exact h⟩⟩
theorem Ck {W:World} {t e:TypeId} {B:Nat} {v:Value} {n:Nat} (h:zl W g t cs) (D:W.ownsRow B e 1 v n xs) (d:e≠t):v.ownBlock≠some g:=zf D h d
theorem WO.app {w W W2:World} {m:MZ} {ch us:List Int} {vs':List Value} {f u t v1 v2 v2':Value} {gs gm:Nat} (h:WO w W m ch vs f u t gs gm v1 v2 us) (J:OwnL W2 w.heap.size v2' vs') (D:W.grownBy W2 v2.ownBlock):
  WO w (W2.setCell ⟨gs,7,none⟩ v2') m ch vs' f u t gs gm v1 v2' us:=by
 have E:gs<W.heap.size:=zc h.blk;have G:some gs≠v2.ownBlock:=fun e=>Ck h.blk h.ps (by decide) e.symm
 have d:zl W2 gs 207 (stCells m f u t v1 v2 gm):=(D.block gs E G).trans h.blk;have I:zL W2 w.heap.size v1 ch:=World.ownsRow.kept h.ch D (own_ne h.ch h.ps (by decide))
 have K:zF W2 gm us:=(D.block gm (zc h.set) (fun e=>by
  rcases Bi h.ps h.set with h | h
  ·rw [h] at e;cases e
  ·exact h e.symm)).trans h.set
 exact ⟨(h.ext.grown D h.ext.size (fun k M=>(World.ownsRow.lt h.ps k M).1)).setCell h.hs _,h.hs,h.hm,d.set v2',ownsRow_setCell_other I (Ck d I (by decide)) _,ownsRow_setCell_other J (Ck d J (by decide)) _,
  (Eh W2 _ _ gm (fun e=>blk_set_ne d K e.symm)).trans K⟩
theorem WO.st2 {w W:World} {m:MZ} {ch us:List Int} {f u t v1 v2:Value} {gs gm:Nat} (hm:zY w ok (.agg #[.int .i64 m.w,.int .i64 m.h,.int .i64 m.l,f,u,t]) m) (h:WO w W m ch vs f u t gs gm v1 v2 us) (E:vs.length=ps.length)
  (d:∀(i:Nat) (x:List Int),ps[i]?=some x->∃u,vs[i]?=some u/\zk W ok2 u x) (D:∀b,ok2 b->ok b\/w.heap.size<=b):Bd W (fun b=>ok b\/w.heap.size<=b) gs m ch ps us f u t v1 v2 gm:=
 Bd.make h.ext hm (fun _ h=>.inl h) h.blk (.inr h.hs) ((Bv.of_own h.ch).weaken (fun _ h=>.inr h)) ⟨vs,by rw [<-E];exact (Bv.of_own h.ps).weaken (fun _ h=>.inr h),fun i x J=>by
  obtain ⟨u,I,G⟩:=d i x J;exact ⟨u,I,G.weaken D⟩⟩ (.inr h.hm) h.set
def Ca (ps:List (List Int)) (n:Int):List (List Int):=ps.set (ps.length - 1) (ps.getD (ps.length - 1) []++[n])
def BB (m:MZ) (ps:List (List Int)) (n:Int):List (List Int):=if finB m (Ca ps n)=true/\ps.length<m.tasks.length then Ca ps n++[[]] else Ca ps n
theorem ints_setCell {W:World} {v:Value} {b k:Nat} (h:zk W ok v l) (d:¬ ok b):zk (W.setCell ⟨b,k,none⟩ x) ok v l:=
 h.keep (fun g D _=>Eh W ⟨b,k,none⟩ x g (fun e=>d (by rw [<-show g=b from e];exact D)))
theorem paths_set {w wt W9:World} {m:MZ} {ch us:List Int} {f u t v1 x15:Value} {gs gm b2 k:Nat} {q:List Int}
  (M:∀(i:Nat) (x:List Int),ps[i]?=some x->∃u,vs[i]?=some u/\zk w ok u x) (hl:vs.length=ps.length) (J:WO w wt m ch vs f u t gs gm v1 (.slice (some ⟨b2,0,none⟩) vs.length c) us) (hE:za wt W9) (a2:w.heap.size<=b2) (K:b2<wt.heap.size) (hk:k<vs.length)
  (hx:zk W9 (fun b=>wt.heap.size<=b) x15 q):
  ∀(i:Nat) (x:List Int),(ps.set k q)[i]?=some x->∃u,(vs.set k x15)[i]?=some u/\zk (W9.setCell ⟨b2,k,none⟩ x15) (fun b=>(ok b/\b<w.heap.size)\/wt.heap.size<=b) u x:=by
 intro i x E;by_cases D:k=i
 ·subst D;rw [List.getElem?_set_self (by omega)] at E;injection E with E;subst E;refine ⟨x15,by rw [List.getElem?_set_self hk],(ints_setCell hx (by omega)).weaken (fun b G=>.inr G)⟩
 ·rw [List.getElem?_set_ne D] at E;obtain ⟨u',V,hr⟩:=M i x E;refine ⟨u',by rw [List.getElem?_set_ne D];exact V,?_⟩
  have U:zk w (fun b=>ok b/\b<w.heap.size) u' x:=by
   obtain ⟨A,c',e,hc,O,d⟩:=hr;refine ⟨A,c',e,hc,O,fun hn=>?_⟩;obtain ⟨b,off,e',G,I⟩:=d hn
   have Q:b<w.heap.size:=by
    have h0:0<(x.map (Value.int .i64)).length:=by simpa using hn
    exact zn (I 0 _ (DW h0))
   exact ⟨b,off,e',⟨G,Q⟩,I⟩
  exact ((ints_setCell (U.below (J.ext.trans hE)) (by omega)).weaken (fun b G=>.inl G))
structure J7 (wk:World) (b2 k:Nat) (p:List Int) (n:Int) (up:Value) (e:Nat->Bool) (v:Nat->Value) (W:World):Prop where
 ext:e 17=false->za wk W
 l:e 11=true->v 11=up
 c:e 12=true->e 15=false->zL W wk.heap.size (v 12) p
 b:e 14=true->e 15=false->∃g,v 14=.slice (some ⟨g,0,none⟩) 1 1/\W.cell? ⟨g,0,none⟩=some (.int .i64 n)
 ap:e 15=true->e 17=false->zL W wk.heap.size (v 15) (p++[n])
 ix:e 16=true->v 16=.pointer (some ⟨b2,k,none⟩)
 st:e 17=true->∃W9,za wk W9/\zL W9 wk.heap.size (v 15) (p++[n])/\W=W9.setCell ⟨b2,k,none⟩ (v 15)
 d12:e 12=true->e 11=true
 d15:e 15=true->e 12=true/\e 14=true
 d17:e 17=true->e 15=true/\e 16=true
section
variable {wk W W':World} {b2 k:Nat} {p:List Int} {n:Int} {up:Value} {e:Nat->Bool} {v:Nat->Value}
theorem J7.init (he:∀j∈[11,12,14,15,16,17],e j=false):J7 wk b2 k p n up e v wk.drew:=
 ⟨fun _=>CZ,fun a=>ff (he 11 (by simp)) a,fun a=>ff (he 12 (by simp)) a,fun a=>ff (he 14 (by simp)) a,fun a=>ff (he 15 (by simp)) a,fun a=>ff (he 16 (by simp)) a,fun a=>ff (he 17 (by simp)) a,fun a=>ff (he 12 (by simp)) a,fun a=>ff (he 15 (by simp)) a,fun a=>ff (he 17 (by simp)) a⟩
theorem J7.n15 (h:J7 wk b2 k p n up e v W) (d:e 12=false):e 15=false:=notT (fun a=>(h.d15 a).1) d
theorem J7.n15' (h:J7 wk b2 k p n up e v W) (d:e 14=false):e 15=false:=notT (fun a=>(h.d15 a).2) d
theorem J7.n12 (h:J7 wk b2 k p n up e v W) (d:e 11=false):e 12=false:=notT h.d12 d
theorem J7.n17 (h:J7 wk b2 k p n up e v W) (d:e 15=false):e 17=false:=notT (fun a=>(h.d17 a).1) d
theorem J7.s11 (h:J7 wk b2 k p n up e v W):J7 wk b2 k p n up (Aw e 11 true) (Aw v 11 up) W:=
 ⟨h.ext,fun _=>rfl,h.c,h.b,h.ap,h.ix,h.st,fun _=>rfl,h.d15,h.d17⟩
theorem J7.s12 (h:J7 wk b2 k p n up e v W) (E:e 17=false) (d:e 15=false) (D:e 11=true) (G:za W W') (I:zL W' wk.heap.size x p):J7 wk b2 k p n up (Aw e 12 true) (Aw v 12 x) W':=
 ⟨fun a=>(h.ext a).trans G,h.l,fun _ _=>I,fun a b=>(by obtain ⟨g,h1,h2⟩:=h.b a b;exact ⟨g,h1,G.cell h2⟩),fun a=>ff d a,h.ix,fun a=>ff E a,fun _=>D,fun a=>ff d a,h.d17⟩
theorem J7.s14 (h:J7 wk b2 k p n up e v W) (D:e 17=false) (d:e 15=false) (E:za W W') (G:W'.cell? ⟨g,0,none⟩=some (.int .i64 n)):J7 wk b2 k p n up (Aw e 14 true) (Aw v 14 (.slice (some ⟨g,0,none⟩) 1 1)) W':=
 ⟨fun a=>(h.ext a).trans E,h.l,fun a b=>(h.c a b).ext E,fun _ _=>⟨g,rfl,G⟩,fun a=>ff d a,h.ix,fun a=>ff D a,h.d12,fun a=>ff d a,h.d17⟩
theorem J7.s15 (h:J7 wk b2 k p n up e v W) (E:e 17=false) (d:e 12=true) (D:e 14=true) (G:za wk W') (I:zL W' wk.heap.size x (p++[n])):J7 wk b2 k p n up (Aw e 15 true) (Aw v 15 x) W':=
 ⟨fun _=>G,h.l,fun _ a=>(by cases a),fun _ a=>(by cases a),fun _ _=>I,h.ix,fun a=>ff E a,h.d12,fun _=>⟨d,D⟩,fun a=>⟨rfl,(h.d17 a).2⟩⟩
theorem J7.s16 (h:J7 wk b2 k p n up e v W):J7 wk b2 k p n up (Aw e 16 true) (Aw v 16 (.pointer (some ⟨b2,k,none⟩))) W:=
 ⟨h.ext,h.l,h.c,h.b,h.ap,fun _=>rfl,h.st,h.d12,h.d15,fun a=>⟨(h.d17 a).1,rfl⟩⟩
theorem J7.s17 (h:J7 wk b2 k p n up e v W) (D:e 17=false) (d:e 15=true) (E:e 16=true) (hW:W'=W.setCell ⟨b2,k,none⟩ (v 15)):J7 wk b2 k p n up (Aw e 17 true) (Aw v 17 x) W':=
 ⟨fun a=>(by cases a),h.l,fun _ a=>ff (b:=e 15) a d,fun _ a=>ff (b:=e 15) a d,fun _ a=>(by cases a),h.ix,fun _=>⟨W,h.ext D,h.ap d D,hW⟩,h.d12,h.d15,fun _=>⟨d,E⟩⟩
theorem WO.store {w:World} {m:MZ} {ch us:List Int} {vsp:List Value} {f u t v1:Value} {gs gm:Nat} (h:WO w W m ch vsp f u t gs gm v1 (.slice (some ⟨b2,0,none⟩) vsp.length c) us) (D:w.heap.size<=b2):
  WO w (W.setCell ⟨b2,k,none⟩ x) m ch (vsp.set k x) f u t gs gm v1 (.slice (some ⟨b2,0,none⟩) vsp.length c) us:=by
 have h2:OwnL (W.setCell ⟨b2,k,none⟩ x) w.heap.size (.slice (some ⟨b2,0,none⟩) vsp.length c) (vsp.set k x):=by
  have:=(World.ownsRow.stored h.ps k x).1;unfold OwnL;rw [List.length_set];exact this
 have d:=(World.ownsRow.stored h.ps k x).2;have h3:v1.ownBlock=none\/v1.ownBlock≠some b2:=own_ne h.ch h.ps (by decide);have E:b2≠gs:=fun e=>Ck h.blk h.ps (by decide) (by rw [<-e];rfl)
 have G:b2≠gm:=fun e=>by
  rcases Bi h.ps h.set with h | h
  ·cases h
  ·exact h (by rw [<-e];rfl)
 exact ⟨AU h.ext d h.ext.size D,h.hs,h.hm,(d.block gs (zc h.blk) (fun e=>by injection e with e;exact E e.symm)).trans h.blk,World.ownsRow.kept h.ch d h3,h2,(d.block gm (zc h.set) (fun e=>by injection e with e;exact G e.symm)).trans h.set⟩
end
theorem with_calls {m:MZ} {ch us:List Int} {f u ts:Value} (n:Int) (w:World) (h:Bd w ok g m ch ps us f u ts vc vp gu) (so:SOk m ch ps) (so1:SOk m (ch++[n]) (Ca ps n)) (hp:0<ps.length):
  Calls Tryz.prog 149 #[.pointer (some ⟨g,0,none⟩),.int .i64 n] w fun e w'=>∃v',e=.returned v'/\za w w'/\∃us',(∀x,x∈us'↔x=n\/x∈us)/\CT w' (fun b=>ok b\/w.heap.size<=b) v' m (ch++[n]) (BB m ps n) us':=by
 obtain ⟨r0,r1,r2,r3,r4,r5,r6,r7,r8⟩:=h.rules;have n5:=h.ps;have p7:=h.ch;have n2:=h.maze;obtain ⟨fr',up',ts',b1,_,_,n8⟩:=n2;injection b1 with b1;injection b1 with b1;simp only [List.cons.injEq,and_true,true_and] at b1;obtain ⟨rfl,rfl,rfl⟩:=b1;obtain ⟨vst,⟨At,ct,rfl,p8,_⟩,_⟩:=n8;have SO1:=zh so1;clear so1;have HS:=zh h;clear h;have so_pl:ps.length<=6:=Ea so.pl so.good.tk;have SO:=zh so;clear so;obtain ⟨vs,a9,h4⟩:=n5
 have i3:vs.length=ps.length:=by
  obtain ⟨_,_,_,_,hr⟩:=a9;have:=hr.1;omega
 have h1:∀u∈vs,u.oneCell'=true:=by
  intro u hu;obtain ⟨i,hi,rfl⟩:=EE hu;obtain ⟨u',f1,n6⟩:=h4 i _ (DW (by omega:i<ps.length));rw [DW hi] at f1;injection f1 with f1;rw [f1];exact ints_oneCell n6
 rw [<-i3] at a9;have o8:vs.length<=6:=by have:=so_pl;omega
 have H1:=zh h1;clear h1;have a0:=zh i3;clear i3;have i7:=zh a9;clear a9;have f9:=zh h4;clear h4;have q5:=@run_makeMap Tryz.prog;have hx:=za.refl w
 go_enter Tryz.func149,Tryz.ntmps149
 go_wp2_with fail
 refine Eo (S:=(fun w'=>za w w')) (by kernel_rfl) (CZ) fun zH=>?_;refine z6 0 zH ?_;refine z6 1 zH ?_;simp only [zd,DV];refine z6 2 zH ?_;refine z6 3 zH ?_;simp only [zd,DV];refine z6 4 zH ?_;refine z6 5 zH ?_;simp only [zd,DV];refine z6 6 zH ?_;refine z6 7 zH ?_;simp only [zd,DV];refine z6 9 zH ?_;refine z6 12 zH ?_;simp only [zd,DV];refine z6 13 zH ?_;refine z6 14 zH ?_;simp only [zd,DV];refine z6 15 zH ?_;refine z6 18 zH ?_;simp only [zd,DV];refine Cg [8,10,11,16,17,19,20,21,22,23] (fun e v W=>JW w ch n vs m f u (.slice At m.tasks.length ct) e v W) (F:=?F1) (by kernel_rfl) (by kernel_rfl) (by decide) zH (fun v=>?hF1) ?init1 (by kernel_rfl) ?steps1 ?fin1
 case hF1=>(simp only [zE,BU,List.getElem?_toArray,List.getElem?_cons_succ,List.getElem?_cons_zero,Option.bind,Act.put,List.setIfInBounds_toArray,List.set_cons_succ,List.set_cons_zero];rfl)
 case init1=>
  intro e v he;exact JW.init he
 case steps1=>
  refine zj.cons rfl (fun e v W K d hW he E D=>?_) ?_
  ·simp only [zd] at E D⊢;go_simp;go_at_call 92;refine (cloneI_calls _ (HS.out.ext hW).ch (by have:=SO.out.cl;omega)).mono ?_;rintro e9 w9 ⟨v9,rfl,hM⟩;exact D.out _ v9 _ (by rfl) (hW.trans hM.ext) ((d.keep hM.ext).s8 (d.n11 he) (hM.own.mono hW.size))
  refine zj.cons rfl (fun e v W K d hW he E D=>?_) ?_
  ·simp only [zd] at E D⊢;go_simp;exact D.out _ _ _ (by rfl) (hW.alloc _) ((d.keep ((za.refl W).alloc _)).s10 (zA _ _ _ rfl))
  refine zj.cons rfl (fun e v W K d hW he E D=>?_) ?_
  ·simp only [zd] at E D⊢;have h8:e 8=true:=zu E [8] (by kernel_rfl) 8 (by simp);have m2:e 10=true:=zu E [10] (by kernel_rfl) 10 (by simp);obtain ⟨gb,k9,j5⟩:=d.b m2 he;rw [if_pos (by rfl)];refine Ch (ok:=fun _=>True) W _ _ (by rfl) w.heap.size ch [n] (v 8) (v 10) (by rfl) (by rfl) (d.c1 h8 he) (by rw [k9];exact ints_one j5) hW.size (by have:=SO.out.cl;simp;omega) ?_;intro v9 w9 ho hg _;exact D.out _ v9 _ (by rfl) (Ao hW hg hW.size (fun k hk=>AO (d.c1 h8 he) hk)) (d.s11 h8 he (d.n21 he) (d.n22 (d.n21 he)) ho hg)
  refine zj.cons rfl (fun e v W K d hW he E D=>?_) ?_
  ·simp only [zd] at E D⊢;go_simp;go_at_call 185;refine (cloneL_calls _ (i7.out.below hW) H1.out (by omega)).mono ?_;rintro e9 w9 ⟨v9,rfl,hE,hO⟩;exact D.out _ v9 _ (by rfl) (hW.trans hE) ((d.keep hE).s16 (d.n21' he) (d.n22 (d.n21' he)) (hO.mono hW.size))
  refine zj.cons rfl (fun e v W K d hW he E D=>?_) ?_
  ·simp only [zd] at E D⊢;go_simp;exact D.out _ _ _ (by rfl) (hW.alloc _) ((d.keep ((za.refl W).alloc _)).s17 (d.n19 he) (d.n20 (d.n19 he)) hW.size (zF.new _))
  refine zj.cons rfl (fun e v W K d hW he E D=>?_) ?_
  ·simp only [zd] at E D⊢;have M:e 17=true:=zu E [17] (by kernel_rfl) 17 (by simp);obtain ⟨gm,I,h5,hset⟩:=d.mm M;rw [he] at hset;obtain ⟨w9,f8,d8,b3⟩:=run_add hset n 205 Tryz.underlying205;have n7:(Instr.mapUpdate 205 (v 17) (.int .i64 n) (.bool true)).run Tryz.prog W=.ok () w9:=by rw [I];exact f8
   have HJ:=zh (d.s19 (x:=undef) M I hset (d.n22 (d.n21'' (d.n20 he))) (by have:=d8;rwa [ins_new (by simp)] at this) b3 h5);clear f8 d8 hset I;go_simp;exact D.out _ undef _ (by rfl) HJ.out.ext HJ.out
  refine zj.cons rfl (fun e v W K d hW he E D=>?_) ?_
  ·simp only [zd] at E D⊢;have m3:e 19=true:=zu E [19] (by kernel_rfl) 19 (by simp);go_simp;exact D.out _ (v 17) _ (by rfl) hW (d.s20 m3 (d.n21'' he) (d.n22 (d.n21'' he)))
  refine zj.cons rfl (fun e v W K d hW he E D=>?_) ?_
  ·simp only [zd] at E D⊢;have b7:e 11=true:=zu E [11] (by kernel_rfl) 11 (by simp);have b8:e 16=true:=zu E [16] (by kernel_rfl) 16 (by simp);have g4:e 20=true:=zu E [20] (by kernel_rfl) 20 (by simp);obtain ⟨A1,c1,d9,_⟩:=AL (d.ap b7);obtain ⟨A2,c2,e3,_⟩:=Bv.of_own (d.c2 b8);have M:=d.d19 (d.d20 g4);obtain ⟨gm,I,_,_⟩:=d.mm M;have b0:=(d.mv g4).trans I;clear I;go_simp;exact D.out _ (.agg #[.int .i64 m.w,.int .i64 m.h,.int .i64 m.l,f,u,.slice At m.tasks.length ct,v 11,v 16,v 20]) _ (by simp [Act.put,d9,e3,b0]) hW (d.s21 ⟨b7,b8,g4⟩ rfl)
  refine zj.cons rfl (fun e v W K d hW he E D=>?_) ?_
  ·simp only [zd] at E D⊢;have i9:e 21=true:=zu E [21] (by kernel_rfl) 21 (by simp);have l1:=d.bd i9;go_simp;exact D.out _ _ _ (by simp [Act.put,l1]) (hW.alloc _) ((d.keep ((za.refl W).alloc _)).s22 i9 (d.n23 he) hW.size (zl.new _ _ _ rfl))
  refine zj.cons rfl (fun e v W K d hW he E D=>?_) ?_
  ·simp only [zd] at E D⊢;have m4:e 22=true:=zu E [22] (by kernel_rfl) 22 (by simp);go_simp;exact D.out _ (v 22) _ (by rfl) hW (d.s23 m4)
  exact zj.nil
 case fin1=>
  intro v W d hW;have e1:=d.fin rfl;obtain ⟨gs,e4,n0,d6⟩:=d.bx rfl;obtain ⟨gm,I,h5,hset⟩:=d.mm rfl;have b0:=(d.mv rfl).trans I;have e2:=e1.trans e4;rw [b0] at d6;have G:Hid (WO w W m (ch++[n]) vs f u (.slice At m.tasks.length ct) gs gm (v 11) (v 16) [n]):=⟨d.ext,n0,h5,d6,d.ap rfl,d.c2 rfl,by simpa using hset⟩;generalize v 11=v1 at*;generalize v 16=v2 at*;rw [e2,e4];clear d d6 hset b0 I e4 e1 e2;have q9:=run_range_map (P:=Tryz.prog) W 205 3 4 gu _ us.length Tryz.underlying205 ((HS.out.ext hW).us);have j3:Hid (RW w (W.alloc (.mapIter (some gu) us.length #[] us.length)) m (ch++[n]) vs f u (.slice At m.tasks.length ct) gs gm v1 v2 [n] W.heap.size gu us n #[] us.length):=⟨G.out.keep ((za.refl W).alloc _),EL _ _,hW.size,DY _,((HS.out.ext hW).us).below ((za.refl W).alloc _),fun x=>by simp⟩;have n1:gu<w.heap.size:=zc HS.out.us;have q8:=r8 W hW
  go_wp2_with fail
  generalize W.heap.size=r at*
  go_loopg [6] (leftN us.length #[]) (fun gk s6 wr=>∃us2 seen c0,gk=leftN us.length seen/\Hid (RW w wr m (ch++[n]) vs f u (.slice At m.tasks.length ct) gs gm v1 v2 us2 r gu us n seen c0))
  case atStart=>exact ⟨[n],#[],us.length,rfl,j3⟩
  clear j3
  case round=>
   obtain ⟨us2,seen,c0,rfl,hR⟩:=hrel;rcases set_next (P:=Tryz.prog) hR.out.old hR.out.it hR.out.hc with ⟨f6,i1⟩ | ⟨i,hi,n3,w1,g7,i1,m9⟩
   ·have d7:Hid (∀x,x∈us2↔x=n\/x∈us):=fun x=>by rw [hR.out.mem];exact mem_all f6
    have G:=zh hR.out.wo;have a3:=zh (WO.st HS.out f9.out hR.out.wo a0.out);have b4:=hR.out.wo.ext
    go_wp2_with fail
    clear hR f6 i1;obtain ⟨wk,rfl⟩:∃wk:World,wk=wr:=⟨_,rfl⟩;refine (AQ _ a3.out (by omega)).mono ?_;rintro e wt ⟨U,e6⟩;have e6:za wk wt:=e6 ▸ za.refl _;obtain ⟨k,hk⟩:∃k,ps.length=k+1:=⟨ps.length - 1,by omega⟩;have k5:(ps.length:Int) - 1=(k:Int):=by omega
    rw [k5] at U;subst U;have G:=zh (G.out.keep e6);have b4:=G.out.ext;clear a3 e6 k5;have h9:k<ps.length:=by omega
    obtain ⟨up,k8,h7⟩:=f9.out k _ (DW h9);obtain ⟨p,f0⟩:=Fd (ps[k]);rw [<-f0] at h7;have q6:p.length<=1000:=by rw [f0];exact SO.out.pp _ (DZ h9)
    have l9:=zh f0;clear f0;have m0:=zh h7;clear h7;have l4:vs.length=k+1:=by have:=a0.out;omega
    obtain ⟨b2,cp2,n9,g8,a4⟩:=World.ownsRow.form G.out.ps (by omega);subst n9;have j7:wt.cell? ⟨b2,k,none⟩=some up:=by rw [World.ownsRow.cellAt G.out.ps k (by omega)];exact k8
    have hfz:wt.frozen? ⟨b2,k,none⟩=false:=World.ownsRow.frozenAt G.out.ps k;have rup:=za.rule j7;have a7:wt.cell? ⟨gs,7,none⟩=some (.slice (some ⟨b2,0,none⟩) vs.length cp2):=G.out.blk.cell rfl;have e8:gs<wt.heap.size:=zc G.out.blk;have j9:gs≠b2:=fun e=>Ck G.out.blk G.out.ps (by decide) (by rw [e];rfl)
    have m1:=zh l4;have o7:(k:Int)<(vs.length:Int):=by omega
    have o6:(0:Int)<=(k:Int):=by omega
    have o4:=own_capL G.out.ps;clear j7 k8 hk l4
    go_wp2_with fail
    refine Eo (S:=(fun W=>za w W/\W.cell? ⟨gs,7,none⟩=some (.slice (some ⟨b2,0,none⟩) vs.length cp2))) (by kernel_rfl) (⟨b4.drew,a7⟩) fun zH=>?_;refine z6 0 zH ?_;refine z6 1 zH ?_;simp only [zd,DV];refine z6 2 zH ?_;refine z6 3 zH ?_;simp only [zd,DV];refine z6 4 zH ?_;refine z6 5 zH ?_;simp only [zd,DV];refine z6 6 zH ?_;refine z6 7 zH ?_;simp only [zd,DV];refine z6 8 zH ?_;refine z6 9 zH ?_;simp only [zd,DV];refine z6 10 zH ?_;refine z6 13 zH ?_;simp only [zd,DV];refine Cg [11,12,14,15,16,17] (fun e v W=>J7 wt b2 k p n up e v W) (F:=?F16) (by kernel_rfl) (by kernel_rfl) (by decide) zH (fun v=>?hF16) ?init16 (by kernel_rfl) ?steps16 ?fin16
    case hF16=>(simp only [zE,BU,List.getElem?_toArray,List.getElem?_cons_succ,List.getElem?_cons_zero,Option.bind,Act.put,List.setIfInBounds_toArray,List.set_cons_succ,List.set_cons_zero];rfl)
    case init16=>
     intro e v he;exact J7.init he
    case steps16=>
     refine zj.cons rfl (fun e v W K d hW he E D=>?_) ?_
     ·simp only [zd] at E D⊢;have hE:=d.ext (d.n17 (d.n15 (d.n12 he)));have m7:=rup W hE;go_simp;exact D.out _ up _ (by rfl) hW (d.s11)
     refine zj.cons rfl (fun e v W K d hW he E D=>?_) ?_
     ·simp only [zd] at E D⊢;have b7:e 11=true:=zu E [11] (by kernel_rfl) 11 (by simp);have Q:=d.n15 he;have M:=d.n17 Q;have hE:=d.ext M;have d9:=d.l b7;go_simp;go_at_call 92;refine (cloneI_calls _ (m0.out.below (b4.trans hE)) (by omega)).mono ?_;rintro e9 w9 ⟨v9,rfl,hM⟩;exact D.out _ v9 _ (by simp [Act.put,d9]) ⟨hW.1.trans hM.ext,hM.ext.cell hW.2⟩ (d.s12 M Q b7 hM.ext (hM.own.mono hE.size))
     refine zj.cons rfl (fun e v W K d hW he E D=>?_) ?_
     ·simp only [zd] at E D⊢;have Q:=d.n15' he;have M:=d.n17 Q;go_simp;exact D.out _ _ _ (by rfl) ⟨hW.1.alloc _,((za.refl W).alloc _).cell hW.2⟩ (d.s14 M Q ((za.refl W).alloc _) (zA _ _ _ rfl))
     refine zj.cons rfl (fun e v W K d hW he E D=>?_) ?_
     ·simp only [zd] at E D⊢;have g3:e 12=true:=zu E [12] (by kernel_rfl) 12 (by simp);have i8:e 14=true:=zu E [14] (by kernel_rfl) 14 (by simp);have M:=d.n17 he;obtain ⟨gb,l0,j6⟩:=d.b i8 he;have hE:=d.ext M;rw [if_pos (by rfl)];refine Ch (ok:=fun _=>True) W _ _ (by rfl) wt.heap.size p [n] (v 12) (v 14) (by rfl) (by rfl) (d.c g3 he) (by rw [l0];exact ints_one j6) hE.size (by simp;omega) ?_;intro v9 w9 ho hg _;have a2:za wt w9:=Ao hE hg hE.size (fun k hk=>AO (d.c g3 he) hk);exact D.out _ v9 _ (by rfl) ⟨b4.trans a2,a2.cell a7⟩ (d.s15 M g3 i8 a2 ho)
     refine zj.cons rfl (fun e v W K d hW he E D=>?_) ?_
     ·simp only [zd] at E D⊢;go_simp;exact D.out _ _ _ (by rfl) hW d.s16
     refine zj.cons rfl (fun e v W K d hW he E D=>?_) ?_
     ·simp only [zd] at E D⊢;have Q:e 15=true:=zu E [15] (by kernel_rfl) 15 (by simp);have b8:e 16=true:=zu E [16] (by kernel_rfl) 16 (by simp);have hE:=d.ext he;have j1:=d.ap Q he;obtain ⟨A9,c9,e0,_⟩:=AL j1;rw [show (p++[n]).length=p.length+1 from by simp] at e0;have e3:=d.ix b8;have m7:=rup W hE;have q4:W.frozen? ⟨b2,k,none⟩=false:=(hE.frozen (p:=⟨b2,k,none⟩) a4).trans hfz;have HJ:=zh (d.s17 (x:=undef) he Q b8 rfl);have HE:=zh (show za w (W.setCell ⟨b2,k,none⟩ (v 15))/\(W.setCell ⟨b2,k,none⟩ (v 15)).cell? ⟨gs,7,none⟩=some (.slice (some ⟨b2,0,none⟩) vs.length cp2) from ⟨(b4.trans hE).setCell g8 _,(En (w:=W) (Eh W _ _ gs (fun e=>j9 e))).trans hW.2⟩);rw [e0] at HJ HE;go_simp;exact D.out _ undef _ (by simp [Act.put,e0,e3]) HE.out HJ.out
     exact zj.nil
    case fin16=>
     intro v W d hW;obtain ⟨W9,a2,j2,g6⟩:=d.st rfl;generalize v 15=x15 at*;have d4:=zh ((G.out.keep a2).store (k:=k) (x:=x15) g8);have b9:Hid (∀(i:Nat) (x:List Int),(ps.set k (p++[n]))[i]?=some x->∃u,(vs.set k x15)[i]?=some u/\zk W (fun b=>(ok b/\b<w.heap.size)\/wt.heap.size<=b) u x):=by rw [g6];exact paths_set f9.out a0.out G.out a2 g8 a4 (by omega) (Bv.of_own j2)
     rw [<-g6] at d4;clear d j2 g6 G a7 rup a2;have G:=d4;clear d4;have d5:Ca ps n=ps.set k (p++[n]):=by unfold Ca;rw [show ps.length - 1=k from by have:=a0.out;have:=m1.out;omega,l9.out];simp [h9]
     rw [<-d5] at b9;have o2:=zh d5;clear d5;have e5:Hid ((vs.set k x15).length=(Ca ps n).length):=by have:=a0.out;show _=_;unfold Ca;simp;omega
     have l5:Hid ((vs.set k x15).length=vs.length):=by show _=_;simp
     have g7:Hid ((Ca ps n).length=ps.length):=by show _=_;unfold Ca;simp
     generalize vs.set k x15=vs1 at*;have f7:Hid (∀b,((ok b/\b<w.heap.size)\/wt.heap.size<=b)->ok b\/w.heap.size<=b):=fun b hb=>by rcases hb with h | h;exact .inl h.1;exact .inr (Ea b4.size h)
     have a3:=zh (WO.st2 HS.out.maze G.out e5.out b9.out f7.out);have i4:=G.out.ext;have l3:Hid (b2<wt.heap.size):=a4;have h6:Hid (gs<wt.heap.size):=e8;have f5:0<(Ca ps n).length:=by have:=g7.out;omega
     have a7:W.cell? ⟨gs,7,none⟩=some (.slice (some ⟨b2,0,none⟩) vs.length cp2):=G.out.blk.cell rfl;have o5:=r5 W i4;obtain ⟨b,hb⟩:=Fd (finB m (Ca ps n));have HB:=zh hb;clear hb;have j8:∀q:Nat,Calls Tryz.prog 204 #[.pointer (some ⟨gs,0,none⟩)] (W.drewN q) fun e w'=>e=.returned (.bool b)/\z8 (W.drewN q) w':=fun q=>by rw [HB.out];exact DL _ (a3.out.ext ((za.refl W).drewN q)) SO1.out f5
     have g0:=zh j8;clear j8;clear f5
     cases b with
     | false=>
      have V:BB m ps n=Ca ps n:=by unfold BB;rw [if_neg (fun h=>by rw [<-HB.out] at h;cases h.1)]
      have b6:=zh V;clear V
      go_wp2_with fail
      go_quiet ((go_at_call 204;refine (g0.out _).mono ?_;rintro e w9 ⟨U,nd,rfl⟩;exact ⟨U,⟨_,World.drewN_drewN _ _ _⟩⟩))
      go_wp2_with fail
      go_ret;exact ⟨_,rfl,i4.drewN _,us2,d7.out,gs,_,_,_,_,_,gm,rfl,by rw [b6.out];exact a3.out.ext ((za.refl W).drewN _)⟩
     | true=>
      by_cases i0:vs.length<m.tasks.length
      ·have V:BB m ps n=Ca ps n++[[]]:=by unfold BB;rw [if_pos ⟨HB.out.symm,by have:=a0.out;omega⟩]
       have b6:=zh V;clear V;have E:decide ((vs.length:Int)<(m.tasks.length:Int))=true:=Eb (by omega)
       go_wp2_with fail
       go_quiet ((go_at_call 204;refine (g0.out _).mono ?_;rintro e w9 ⟨U,nd,rfl⟩;exact ⟨U,⟨_,World.drewN_drewN _ _ _⟩⟩))
       generalize j4:W.drewN nq=W4;have g5:za W W4:=by rw [<-j4];exact (za.refl W).drewN _
       clear j4;have a6:=zh (G.out.keep g5);have J:=zh (a6.out.keep ((za.refl W4).alloc (.cells #[.slice none 0 0] 23)));have s1:=a6.out.ext;have p5:W4.cell? ⟨gs,7,none⟩=some (.slice (some ⟨b2,0,none⟩) vs.length cp2):=a6.out.blk.cell rfl;have o1:w.heap.size<=(W4.alloc (.cells #[.slice none 0 0] 23)).heap.size:=J.out.ext.size;have s0:vs1.length<=6:=by have:=l5.out;omega
       go_wp2_with (at_builtin;refine AY (ok:=fun _=>True) rfl _ _ _ rfl w.heap.size vs1 [.slice none 0 0] _ _ rfl rfl J.out.ps (row_nil1 (g:=W4.heap.size) (zA _ _ _ rfl) trivial) (by simp [Value.oneCell']) o1 (by simp;omega) ?_)
       intro v' w6 i2 e7 _;have c8:=zh (J.out.app i2 e7.out);have g9:zl w6 gs 207 _:=(e7.out.block gs (zc J.out.blk) (fun e=>Ck J.out.blk J.out.ps (by decide) e.symm)).trans J.out.blk;have p6:=g9.cell (k:=7) rfl;have p9:=g9.frozen 7
       have c7:Hid (Ar (fun b=>(ok b/\b<w.heap.size)\/wt.heap.size<=b) W (w6.setCell ⟨gs,7,none⟩ v')):=fun b hb i0=>by
        have k7:b≠gs/\b≠b2:=by
         have h1:=G.out.hs;have h2:=h6.out;have h3:=l3.out;rcases hb with h | h <;> omega
        rw [Eh w6 ⟨gs,7,none⟩ v' b k7.1,e7.out.block b (EA i0 (g5.trans ((za.refl W4).alloc _)).size) (fun e=>k7.2 (by have e':some b=some b2:=e;injection e'))];exact (g5.trans ((za.refl W4).alloc (.cells #[.slice none 0 0] 23))).block b i0
       have f2:=zh (paths_app b9.out e5.out c7.out);have f4:=zh (WO.st2 HS.out.maze c8.out (by have:=e5.out;simp;omega) f2.out f7.out);obtain ⟨A6,c6,l2,_⟩:=Bv.of_own i2;subst l2;have k6:(vs1++[Value.slice none 0 0]).length=vs1.length+1:=by simp
       rw [k6] at c8 f4;clear k6;clear i2 e7 g9 c7 f2 J a6 a3
       go_wp2_with fail
       go_ret;exact ⟨_,rfl,c8.out.ext,us2,d7.out,gs,_,_,_,_,_,gm,rfl,by rw [b6.out];exact f4.out⟩
      ·have V:BB m ps n=Ca ps n:=by unfold BB;rw [if_neg (fun h=>by have:=h.2;have:=a0.out;omega)]
       have b6:=zh V;clear V;have E:decide ((vs.length:Int)<(m.tasks.length:Int))=false:=Ec (by omega)
       go_wp2_with fail
       go_quiet ((go_at_call 204;refine (g0.out _).mono ?_;rintro e w9 ⟨U,nd,rfl⟩;exact ⟨U,⟨_,World.drewN_drewN _ _ _⟩⟩))
       go_wp2_with fail
       go_ret;exact ⟨_,rfl,i4.drewN _,us2,d7.out,gs,_,_,_,_,_,gm,rfl,by rw [b6.out];exact a3.out.ext ((za.refl W).drewN _)⟩
   ·obtain ⟨O,a8,a5⟩:=hR.out.step (i:=i) n1 g7;generalize setBlock w1 r (.mapIter (some gu) us.length (seen.push i) us.length)=W2 at*;have o0:=O.ext;have m8:W2.cell? ⟨gs,8,none⟩=some (.map (some gm)):=O.blk.cell rfl
    go_wp2_with (at_mapUpdate;refine wpSetAdd rfl _ _ _ _ rfl Tryz.underlying205 gm us2 us[i] rfl rfl rfl O.set ?_)
    intro w9 d8 b3;have m6:Hid (RW w w9 m (ch++[n]) vs f u (.slice At m.tasks.length ct) gs gm v1 v2 (ins us2 us[i]) r gu us n (seen.push i) us.length):=⟨O.add d8 b3,(b3.block r (zc a8) (fun e=>by injection e with e;exact iter_ne a8 O.set (fun _ _ _ _ h=>by cases h) e.symm)).trans a8,hR.out.hr,DY _,(b3.block gu (zc a5) (fun e=>by injection e with e;have:=O.hm;omega)).trans a5,fun x=>by rw [mem_ins,hR.out.mem];exact mem_step hi⟩;clear d8 b3 O a8 a5 o0 m8 hR i1 m9
    go_wp2_with fail
    go_roundg (leftN us.length (seen.push i))
    case measure=>exact leftN_step hi n3
    case rel=>exact ⟨_,_,_,rfl,m6⟩
end
end Go.Proofs.YtjomnbdjajjgfaaGreatDoor
