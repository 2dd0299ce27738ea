import Derived.Test.YtnmkmhpgnpojbaaGreatDoorWXe
import Derived.Deep.LoopGhost
import Derived.Deep.DeepCutAuto
set_option linter.unusedVariables false
set_option linter.unusedSimpArgs false
set_option maxRecDepth 100000
set_option maxHeartbeats 16000000
namespace Go.Proofs.YtnmkmhpgnpojbaaGreatDoor
variable {seen:Array Nat} {cs:Array Value} {b:Bool} {ps:List (List Int)} {l:List Int} {vs xs:List Value} {c c0 g gu i r since:Nat} {ok ok2:Nat->Prop} {o:Obj} {vc vp x:Value} {w1:World}
section
open Go.RowKit
open Go.ChangeMaps (setBlock)
attribute [local go_sem ↓] Go.wp_at_zero Go.wp_at_succ
theorem zq {md:Region.Mode} {es:Array Edge} {e:Nat->Bool} (E:∀d∈es,Region.binds md d=true->e d.on=true) (ks:List Nat) (h:(ks.all fun k=>es.toList.any fun d=>Region.binds md d && decide (d.on=k))=true):∀k∈ks,e k=true:=by
 intro k G;obtain ⟨d,D,z⟩:=Eu.1 (Ev.1 h k G);simp only [DD,DB] at z;rw [<-z.2];exact E d (by simpa using D) z.1
section
variable {W W':World} {B:Nat}
theorem zt.ext {v:Value} (h:zt W B v l) (d:zb W W'):zt W' B v l:=h.kept (row:=none) ⟨d.os,d.tape,d.output,d.size,fun i z _=>d.block i z⟩ (by cases h:v.ownBlock <;> simp)
theorem Bz.ext {v:Value} (h:Bz W B v vs) (d:zb W W'):Bz W' B v vs:=World.ownsRow.kept h (row:=none) ⟨d.os,d.tape,d.output,d.size,fun i z _=>d.block i z⟩ (by cases h:v.ownBlock <;> simp)
theorem own_ne {e e':TypeId} {v v':Value} {n n':Nat} {xs':List Value} {B':Nat} (h:W.ownsRow B e 1 v n xs) (D:W.ownsRow B' e' 1 v' n' xs') (z:e≠e'):v.ownBlock=none\/v.ownBlock≠v'.ownBlock:=by
 rcases h.2 with ⟨rfl,_⟩ | ⟨g,cap,cur,rfl,_,E,_⟩
 ·exact .inl rfl
 ·refine .inr fun e=>?_
  rcases D.2 with ⟨rfl,_⟩ | ⟨g',cap',cur',rfl,_,d,_⟩
  ·cases e
  ·have e:some g=some g':=e;injection e with e;subst e;rw [E] at d;injection d with d;injection d with _ ht;exact z ht
theorem AQ {e:TypeId} {v:Value} {n:Nat} (h:W.ownsRow B e 1 v n xs) (d:zu W g l):v.ownBlock=none\/v.ownBlock≠some g:=by
 rcases h.2 with ⟨rfl,_⟩ | ⟨g',cap,cur,rfl,_,z,_⟩
 ·exact .inl rfl
 ·refine .inr fun e=>?_
  have e:some g'=some g:=e;injection e with e;subst e;unfold zu at d;rw [z] at d;injection d with d;cases d
end
theorem ints_one {W:World} {x:Int} (h:W.cell? ⟨g,0,none⟩=some (.int .i64 x)):zk W (fun _=>True) (.slice (some ⟨g,0,none⟩) 1 1) [x]:=
 ⟨some ⟨g,0,none⟩,1,rfl,Dq _,rfl,fun _=>⟨g,0,rfl,trivial,fun j u d=>by
  match j,d with
  | 0,d=>
   have:u=.int .i64 x:=by simpa using d.symm
   subst this;exact h⟩⟩
structure JW (w:World) (ch:List Int) (n:Int) (vsp:List Value) (m:MZ) (f u t:Value) (e:Nat->Bool) (v:Nat->Value) (W:World):Prop where
 ext:zb w W
 c1:e 8=true->e 11=false->zt W w.heap.size (v 8) ch
 b:e 10=true->e 11=false->∃g,v 10=.slice (some ⟨g,0,none⟩) 1 1/\W.cell? ⟨g,0,none⟩=some (.int .i64 n)
 ap:e 11=true->zt W w.heap.size (v 11) (ch++[n])
 c2:e 16=true->Bz W w.heap.size (v 16) vsp
 mm:e 17=true->∃gu,v 17=.map (some gu)/\w.heap.size<=gu/\zu W gu (if e 19 then [n] else [])
 mv:e 20=true->v 20=v 17
 bd:e 21=true->v 21=.agg #[.int .i64 m.w,.int .i64 m.h,.int .i64 m.l,f,u,t,v 11,v 16,v 20]
 bx:e 22=true->∃gs,v 22=.pointer (some ⟨gs,0,none⟩)/\w.heap.size<=gs/\ze W gs 154 #[.int .i64 m.w,.int .i64 m.h,.int .i64 m.l,f,u,t,v 11,v 16,v 20]
 fin:e 23=true->v 23=v 22
 d11:e 11=true->e 8=true
 d19:e 19=true->e 17=true
 d20:e 20=true->e 19=true
 d21:e 21=true->e 11=true/\e 16=true/\e 20=true
 d22:e 22=true->e 21=true
 d23:e 23=true->e 22=true
theorem ff {C:Prop} (h:b=false) (a:b=true):C:=by rw [h] at a;cases a
section
variable {w W W':World} {ch:List Int} {n:Int} {vsp:List Value} {m:MZ} {f u t:Value} {e:Nat->Bool} {v:Nat->Value}
theorem JW.keep (h:JW w ch n vsp m f u t e v W) (d:zb W W'):JW w ch n vsp m f u t e v W':=
 ⟨h.ext.trans d,fun a b=>(h.c1 a b).ext d,fun a b=>by obtain ⟨g,z,D⟩:=h.b a b;exact ⟨g,z,d.cell D⟩,fun a=>(h.ap a).ext d,fun a=>(h.c2 a).ext d,
  fun a=>by obtain ⟨g,z,D,E⟩:=h.mm a;exact ⟨g,z,D,E.below d⟩,h.mv,h.bd,fun a=>by obtain ⟨g,z,D,E⟩:=h.bx a;exact ⟨g,z,D,E.ext d⟩,h.fin,h.d11,h.d19,h.d20,h.d21,h.d22,h.d23⟩
theorem JW.s8 (h:JW w ch n vsp m f u t e v W) (d:e 11=false) (z:zt W w.heap.size x ch):JW w ch n vsp m f u t (zT e 8 true) (zT v 8 x) W:=by
 exact ⟨h.ext,fun _ _=>z,h.b,h.ap,h.c2,h.mm,h.mv,h.bd,h.bx,h.fin,fun _=>rfl,h.d19,h.d20,h.d21,h.d22,h.d23⟩
theorem JW.s10 (h:JW w ch n vsp m f u t e v W) (d:W.cell? ⟨g,0,none⟩=some (.int .i64 n)):JW w ch n vsp m f u t (zT e 10 true) (zT v 10 (.slice (some ⟨g,0,none⟩) 1 1)) W:=by
 exact ⟨h.ext,h.c1,fun _ _=>⟨g,rfl,d⟩,h.ap,h.c2,h.mm,h.mv,h.bd,h.bx,h.fin,h.d11,h.d19,h.d20,h.d21,h.d22,h.d23⟩
theorem JW.s11 (h:JW w ch n vsp m f u t e v W) (J:e 8=true) (d:e 11=false) (z:e 21=false) (D:e 22=false) (O:zt W' w.heap.size x (ch++[n])) (G:Hid (W.grownBy W' (v 8).ownBlock)):JW w ch n vsp m f u t (zT e 11 true) (zT v 11 x) W':=by
 have I:=h.c1 J d;refine ⟨?_,?_,?_,?_,?_,?_,?_,?_,?_,?_,fun _=>J,h.d19,h.d20,fun a=>⟨rfl,(h.d21 a).2⟩,h.d22,h.d23⟩
 ·exact Ab h.ext G h.ext.size (fun k M=>AF I M)
 ·exact fun _ h=>by cases h
 ·exact fun _ h=>by cases h
 ·exact fun _=>O
 ·exact fun a=>World.ownsRow.kept (h.c2 a) G.out (own_ne (h.c2 a) I (by decide))
 ·intro a;obtain ⟨gu,K,L,E⟩:=h.mm a;refine ⟨gu,K,L,(G.out.block gu (za E) (fun e=>?_)).trans E⟩;rcases AQ I E with h4 | h4
  ·rw [h4] at e;cases e
  ·exact h4 e.symm
 ·exact h.mv
 ·exact fun a=>ff z a
 ·exact fun a=>ff D a
 ·exact h.fin
theorem JW.s16 (h:JW w ch n vsp m f u t e v W) (d:e 21=false) (z:e 22=false) (D:Bz W w.heap.size x vsp):JW w ch n vsp m f u t (zT e 16 true) (zT v 16 x) W:=by
 exact ⟨h.ext,h.c1,h.b,h.ap,fun _=>D,h.mm,h.mv,fun a=>ff d a,fun a=>ff z a,h.fin,h.d11,h.d19,h.d20,fun a=>⟨(h.d21 a).1,rfl,(h.d21 a).2.2⟩,h.d22,h.d23⟩
theorem JW.s17 (h:JW w ch n vsp m f u t e v W) (d:e 19=false) (z:e 20=false) (D:w.heap.size<=g) (E:zu W g []):JW w ch n vsp m f u t (zT e 17 true) (zT v 17 (.map (some g))) W:=by
 exact ⟨h.ext,h.c1,h.b,h.ap,h.c2,fun _=>⟨g,rfl,D,by show zu _ _ (if e 19=true then [n] else []);rw [d];exact E⟩,fun a=>ff z a,h.bd,h.bx,h.fin,h.d11,fun _=>rfl,h.d20,h.d21,h.d22,h.d23⟩
theorem JW.s19 (h:JW w ch n vsp m f u t e v W) (E:e 17=true) (K:v 17=.map (some gu)) (D:zu W gu []) (I:e 22=false) (L:zu W' gu [n]) (d:W.grownBy W' (some gu)) (z:w.heap.size<=gu):JW w ch n vsp m f u t (zT e 19 true) (zT v 19 x) W':=by
 refine ⟨?_,?_,?_,?_,?_,?_,?_,?_,?_,?_,h.d11,fun _=>E,fun _=>rfl,h.d21,h.d22,h.d23⟩
 ·exact Am h.ext d h.ext.size z
 ·exact fun a b=>World.ownsRow.kept (h.c1 a b) d (AQ (h.c1 a b) D)
 ·intro a b;obtain ⟨g,J,G⟩:=h.b a b;refine ⟨g,J,(World.grownBy.cell d G (fun e=>?_))⟩;injection e with e;have:g=gu:=e;subst this;unfold zu at D;unfold World.cell? at G;simp [D,mapObj] at G
 ·exact fun a=>World.ownsRow.kept (h.ap a) d (AQ (h.ap a) D)
 ·exact fun a=>World.ownsRow.kept (h.c2 a) d (AQ (h.c2 a) D)
 ·exact fun _=>⟨gu,K,z,L⟩
 ·exact h.mv
 ·exact h.bd
 ·exact fun a=>ff I a
 ·exact h.fin
theorem JW.s20 (h:JW w ch n vsp m f u t e v W) (d:e 19=true) (z:e 21=false) (D:e 22=false):JW w ch n vsp m f u t (zT e 20 true) (zT v 20 (v 17)) W:=by
 exact ⟨h.ext,h.c1,h.b,h.ap,h.c2,h.mm,fun _=>rfl,fun a=>ff z a,fun a=>ff D a,h.fin,h.d11,h.d19,fun _=>d,fun a=>⟨(h.d21 a).1,(h.d21 a).2.1,rfl⟩,h.d22,h.d23⟩
theorem JW.s21 (h:JW w ch n vsp m f u t e v W) (d:e 11=true/\e 16=true/\e 20=true) (z:x=.agg #[.int .i64 m.w,.int .i64 m.h,.int .i64 m.l,f,u,t,v 11,v 16,v 20]):JW w ch n vsp m f u t (zT e 21 true) (zT v 21 x) W:=by
 exact ⟨h.ext,h.c1,h.b,h.ap,h.c2,h.mm,h.mv,fun _=>z,h.bx,h.fin,h.d11,h.d19,h.d20,fun _=>d,fun _=>rfl,h.d23⟩
theorem JW.s22 {gs:Nat} (h:JW w ch n vsp m f u t e v W) (d:e 21=true) (z:e 23=false) (E:w.heap.size<=gs) (D:ze W gs 154 #[.int .i64 m.w,.int .i64 m.h,.int .i64 m.l,f,u,t,v 11,v 16,v 20]):JW w ch n vsp m f u t (zT e 22 true) (zT v 22 (.pointer (some ⟨gs,0,none⟩))) W:=by
 exact ⟨h.ext,h.c1,h.b,h.ap,h.c2,h.mm,h.mv,h.bd,fun _=>⟨gs,rfl,E,D⟩,fun a=>ff z a,h.d11,h.d19,h.d20,h.d21,fun _=>d,fun _=>rfl⟩
theorem JW.s23 (h:JW w ch n vsp m f u t e v W) (d:e 22=true):JW w ch n vsp m f u t (zT e 23 true) (zT v 23 (v 22)) W:=by
 exact ⟨h.ext,h.c1,h.b,h.ap,h.c2,h.mm,h.mv,h.bd,h.bx,fun _=>rfl,h.d11,h.d19,h.d20,h.d21,h.d22,fun _=>d⟩
theorem JW.init {w:World} {ch:List Int} {n:Int} {vsp:List Value} {m:MZ} {f u t:Value} {e:Nat->Bool} {v:Nat->Value} (he:∀j∈[8,10,11,16,17,19,20,21,22,23],e j=false):JW w ch n vsp m f u t e v w.drew:=
 ⟨Ch,fun a=>ff (he 8 (by simp)) a,fun a=>ff (he 10 (by simp)) a,fun a=>ff (he 11 (by simp)) a,fun a=>ff (he 16 (by simp)) a,fun a=>ff (he 17 (by simp)) a,fun a=>ff (he 20 (by simp)) a,fun a=>ff (he 21 (by simp)) a,
  fun a=>ff (he 22 (by simp)) a,fun a=>ff (he 23 (by simp)) a,fun a=>ff (he 11 (by simp)) a,fun a=>ff (he 19 (by simp)) a,fun a=>ff (he 20 (by simp)) a,fun a=>ff (he 21 (by simp)) a,fun a=>ff (he 22 (by simp)) a,fun a=>ff (he 23 (by simp)) a⟩
theorem notT {c:Bool} (h:b=true->c=true) (d:c=false):b=false:=by
 cases b with
 | false=>rfl
 | true=>exact absurd (h rfl) (by rw [d];simp)
theorem JW.n11 (h:JW w ch n vsp m f u t e v W) (d:e 8=false):e 11=false:=notT h.d11 d
theorem JW.n21 (h:JW w ch n vsp m f u t e v W) (d:e 11=false):e 21=false:=notT (fun a=>(h.d21 a).1) d
theorem JW.n21' (h:JW w ch n vsp m f u t e v W) (d:e 16=false):e 21=false:=notT (fun a=>(h.d21 a).2.1) d
theorem JW.n21'' (h:JW w ch n vsp m f u t e v W) (d:e 20=false):e 21=false:=notT (fun a=>(h.d21 a).2.2) d
theorem JW.n22 (h:JW w ch n vsp m f u t e v W) (d:e 21=false):e 22=false:=notT h.d22 d
theorem JW.n23 (h:JW w ch n vsp m f u t e v W) (d:e 22=false):e 23=false:=notT h.d23 d
theorem JW.n20 (h:JW w ch n vsp m f u t e v W) (d:e 19=false):e 20=false:=notT h.d20 d
theorem JW.n19 (h:JW w ch n vsp m f u t e v W) (d:e 17=false):e 19=false:=notT h.d19 d
end
structure WO (w W:World) (m:MZ) (ch:List Int) (vsp:List Value) (f u t:Value) (gs gm:Nat) (v1 v2:Value) (us:List Int):Prop where
 ext:zb w W
 hs:w.heap.size<=gs
 hm:w.heap.size<=gm
 blk:ze W gs 154 (stCells m f u t v1 v2 gm)
 ch:zt W w.heap.size v1 ch
 ps:Bz W w.heap.size v2 vsp
 set:zu W gm us
section
variable {w W W':World} {m:MZ} {ch us us':List Int} {vsp:List Value} {f u t v1 v2:Value} {gs gm:Nat}
theorem WO.keep (h:WO w W m ch vsp f u t gs gm v1 v2 us) (d:zb W W'):WO w W' m ch vsp f u t gs gm v1 v2 us:=
 ⟨h.ext.trans d,h.hs,h.hm,h.blk.ext d,h.ch.ext d,h.ps.ext d,h.set.below d⟩
theorem blk_set_ne {W:World} {g':Nat} {t:TypeId} (h:ze W g t cs) (d:zu W g' l):g≠g':=by
 rintro rfl;unfold ze at h;unfold zu mapObj at d;rw [h] at d
 cases d
theorem WO.add (h:WO w W m ch vsp f u t gs gm v1 v2 us) (z:zu W' gm us') (d:W.grownBy W' (some gm)):WO w W' m ch vsp f u t gs gm v1 v2 us':=
 ⟨Am h.ext d h.ext.size h.hm,h.hs,h.hm,(d.block gs (za h.blk) (fun e=>by injection e with e;exact blk_set_ne h.blk h.set e)).trans h.blk,
  World.ownsRow.kept h.ch d (AQ h.ch h.set),World.ownsRow.kept h.ps d (AQ h.ps h.set),z⟩
theorem grown_iter {W:World} (h:w1=W\/w1=W.drew):W.grownBy (setBlock w1 r o) (some r):=by
 have d:w1.heap=W.heap/\w1.os=W.os/\w1.tape=W.tape/\w1.output=W.output:=by rcases h with rfl | rfl <;> exact ⟨rfl,rfl,rfl,rfl⟩
 refine ⟨d.2.1,d.2.2.1,d.2.2.2,by simp [setBlock,d.1],fun k _ z=>?_⟩;rw [CT _ (fun e=>z (by rw [e])),d.1]
theorem iter_ne {W:World} {k:Nat} (h:IterIs W r g since seen c0) (z:W.heap[k]?=some o) (D:∀a b c d,o≠.mapIter a b c d):k≠r:=by
 rintro rfl;unfold IterIs at h;rw [z] at h;injection h with h;exact D _ _ _ _ h
theorem own_iter_ne {W:World} {B:Nat} {e:TypeId} {v:Value} {n:Nat} (h:W.ownsRow B e 1 v n xs) (z:IterIs W r g since seen c0):v.ownBlock=none\/v.ownBlock≠some r:=by
 rcases h.2 with ⟨rfl,_⟩ | ⟨g',cap,cur,rfl,_,d,_⟩
 ·exact .inl rfl
 ·refine .inr fun e=>?_
  have e:some g'=some r:=e;injection e with e;exact iter_ne z d (fun _ _ _ _ h=>by cases h) e
theorem own_capL {w:World} {B:Nat} (h:Bz w B (.slice (some ⟨g,0,none⟩) vs.length c) vs):vs.length<=c:=Be h
theorem WO.st {ch0 us0:List Int} (h0:AJ w ok g m ch0 ps us0 f u t vc vp gu) (d:∀(i:Nat) (x:List Int),ps[i]?=some x->∃u,vsp[i]?=some u/\zk w ok u x) (h:WO w W m ch vsp f u t gs gm v1 v2 us)
  (z:vsp.length=ps.length):AJ W (fun b=>ok b\/w.heap.size<=b) gs m ch ps us f u t v1 v2 gm:=
 AJ.make h.ext h0.maze (fun _ h=>.inl h) h.blk (.inr h.hs) ((Aw.of_own h.ch).weaken (fun _ h=>.inr h)) ⟨vsp,by rw [<-z];exact (Aw.of_own h.ps).weaken (fun _ h=>.inr h),fun i x G=>by
  obtain ⟨u,E,D⟩:=d i x G;exact ⟨u,E,(D.below h.ext).weaken (fun _ h=>.inl h)⟩⟩ (.inr h.hm) h.set
theorem mem_step {us:List Int} {n x:Int} (E:i<us.length):((x=n\/∃j,us[j]?=some x/\seen.contains j=true)\/x=us[i])↔(x=n\/∃j,us[j]?=some x/\(seen.push i).contains j=true):=by
 have D:∀j,(seen.push i).contains j=true↔seen.contains j=true\/j=i:=by
  intro j;simp
 constructor
 ·rintro ((h | ⟨j,d,z⟩) | h)
  ·exact .inl h
  ·exact .inr ⟨j,d,(D j).2 (.inl z)⟩
  ·exact .inr ⟨i,by rw [Do E,h],(D i).2 (.inr rfl)⟩
 ·rintro (h | ⟨j,d,z⟩)
  ·exact .inl (.inl h)
  ·rcases (D j).1 z with G | rfl
   ·exact .inl (.inr ⟨j,d,G⟩)
   ·rw [Do E] at d;injection d with d;exact .inr d.symm
theorem mem_all {us:List Int} {n x:Int} (h:∀i,i<us.length->seen.contains i=true):(x=n\/∃j,us[j]?=some x/\seen.contains j=true)↔(x=n\/x∈us):=by
 constructor
 ·rintro (h1 | ⟨j,h1,_⟩)
  ·exact .inl h1
  ·exact .inr (List.mem_of_getElem? h1)
 ·rintro (h1 | h1)
  ·exact .inl h1
  ·obtain ⟨j,d,rfl⟩:=DX h1;exact .inr ⟨j,Do d,h j d⟩
structure RW (w W:World) (m:MZ) (ch:List Int) (vsp:List Value) (f u t:Value) (gs gm:Nat) (v1 v2:Value) (us2:List Int) (r gu:Nat) (us:List Int) (n:Int) (seen:Array Nat) (c0:Nat):Prop where
 wo:WO w W m ch vsp f u t gs gm v1 v2 us2
 it:IterIs W r gu us.length seen c0
 hr:w.heap.size<=r
 hc:us.length<=c0
 old:zu W gu us
 mem:∀x,x∈us2↔x=n\/∃i,us[i]?=some x/\seen.contains i=true
theorem RW.step {w W:World} {m:MZ} {ch us us2:List Int} {vsp:List Value} {f u t v1 v2:Value} {gs gm:Nat} {n:Int} (h:RW w W m ch vsp f u t gs gm v1 v2 us2 r gu us n seen c0) (I:gu<w.heap.size) (E:w1=W\/w1=W.drew):
  WO w (setBlock w1 r (.mapIter (some gu) us.length (seen.push i) us.length)) m ch vsp f u t gs gm v1 v2 us2/\IterIs (setBlock w1 r (.mapIter (some gu) us.length (seen.push i) us.length)) r gu us.length (seen.push i) us.length/\zu (setBlock w1 r (.mapIter (some gu) us.length (seen.push i) us.length)) gu us:=by
 have D:W.grownBy (setBlock w1 r (.mapIter (some gu) us.length (seen.push i) us.length)) (some r):=grown_iter E;have G:w1.heap=W.heap:=by rcases E with rfl | rfl <;> rfl
 have z:∀(k:Nat) (o:Obj),W.heap[k]?=some o->(∀a b c d,o≠.mapIter a b c d)->k≠r:=fun k o J K=>iter_ne h.it J K
 refine ⟨⟨Am h.wo.ext D h.wo.ext.size h.hr,h.wo.hs,h.wo.hm,?_,World.ownsRow.kept h.wo.ch D (own_iter_ne h.wo.ch h.it),World.ownsRow.kept h.wo.ps D (own_iter_ne h.wo.ps h.it),?_⟩,?_,?_⟩
 ·exact (D.block gs (za h.wo.blk) (fun e=>by injection e with e;exact z _ _ h.wo.blk (fun _ _ _ _ h=>by cases h) e)).trans h.wo.blk
 ·exact (D.block gm (za h.wo.set) (fun e=>by injection e with e;exact z _ _ h.wo.set (fun _ _ _ _ h=>by cases h) e)).trans h.wo.set
 ·exact setBlock_same _ (by rw [G];exact za h.it)
 ·exact (D.block gu (za h.old) (fun e=>by injection e with e;exact z _ _ h.old (fun _ _ _ _ h=>by cases h) e)).trans h.old
end
theorem paths_app {W W3:World} (z:∀(i:Nat) (x:List Int),ps[i]?=some x->∃u,vs[i]?=some u/\zk W ok2 u x) (E:vs.length=ps.length) (D:zN ok2 W W3):
  ∀(i:Nat) (x:List Int),(ps++[[]])[i]?=some x->∃u,(vs++[.slice none 0 0])[i]?=some u/\zk W3 ok2 u x:=by
 intro i x d;by_cases h:i<ps.length
 ·rw [Dw h] at d;obtain ⟨u,I,G⟩:=z i x d;exact ⟨u,by rw [Dw (by omega)];exact I,G.keep D⟩
 ·rw [Dx (by omega)] at d
  have h0:i - ps.length=0:=by
   rcases Ec (i - ps.length) with h | h
   ·exact h
   ·rw [DL (by simp;omega)] at d;cases d
  rw [h0] at d;have:x=[]:=by simpa using d.symm
  subst this;exact ⟨_,by rw [Dx (by omega),E,h0];rfl,zk.nil _ _⟩
theorem row_nil1 {W:World} (h:W.cell? ⟨g,0,none⟩=some (.slice none 0 0)) (z:ok g):Aw W ok 1 (.slice (some ⟨g,0,none⟩) 1 1) [Value.slice none 0 0].length [.slice none 0 0]:=
 ⟨some ⟨g,0,none⟩,1,rfl,Dq _,rfl,fun _=>⟨g,0,rfl,z,fun j u d=>by
  match j,d with
  | 0,d=>
   have:u=.slice none 0 0:=by simpa using d.symm
   subst this;exact h⟩⟩
theorem BN {W:World} {t e:TypeId} {B:Nat} {v:Value} {n:Nat} (h:ze W g t cs) (z:W.ownsRow B e 1 v n xs) (d:e≠t):v.ownBlock≠some g:=zd z h d
theorem WO.app {w W W2:World} {m:MZ} {ch us:List Int} {vs':List Value} {f u t v1 v2 v2':Value} {gs gm:Nat} (h:WO w W m ch vs f u t gs gm v1 v2 us) (I:Bz W2 w.heap.size v2' vs') (z:W.grownBy W2 v2.ownBlock):
  WO w (W2.setCell ⟨gs,7,none⟩ v2') m ch vs' f u t gs gm v1 v2' us:=by
 have D:gs<W.heap.size:=za h.blk;have E:some gs≠v2.ownBlock:=fun e=>BN h.blk h.ps (by decide) e.symm
 have d:ze W2 gs 154 (stCells m f u t v1 v2 gm):=(z.block gs D E).trans h.blk;have G:zt W2 w.heap.size v1 ch:=World.ownsRow.kept h.ch z (own_ne h.ch h.ps (by decide))
 have J:zu W2 gm us:=(z.block gm (za h.set) (fun e=>by
  rcases AQ h.ps h.set with h | h
  ·rw [h] at e;cases e
  ·exact h e.symm)).trans h.set
 exact ⟨(h.ext.grown z h.ext.size (fun k K=>(World.ownsRow.lt h.ps k K).1)).setCell h.hs _,h.hs,h.hm,d.set v2',ownsRow_setCell_other G (BN d G (by decide)) _,ownsRow_setCell_other I (BN d I (by decide)) _,
  (DA W2 _ _ gm (fun e=>blk_set_ne d J e.symm)).trans J⟩
theorem WO.st2 {w W:World} {m:MZ} {ch us:List Int} {f u t v1 v2:Value} {gs gm:Nat} (hm:zF w ok (.agg #[.int .i64 m.w,.int .i64 m.h,.int .i64 m.l,f,u,t]) m) (h:WO w W m ch vs f u t gs gm v1 v2 us) (D:vs.length=ps.length)
  (d:∀(i:Nat) (x:List Int),ps[i]?=some x->∃u,vs[i]?=some u/\zk W ok2 u x) (z:∀b,ok2 b->ok b\/w.heap.size<=b):AJ W (fun b=>ok b\/w.heap.size<=b) gs m ch ps us f u t v1 v2 gm:=
 AJ.make h.ext hm (fun _ h=>.inl h) h.blk (.inr h.hs) ((Aw.of_own h.ch).weaken (fun _ h=>.inr h)) ⟨vs,by rw [<-D];exact (Aw.of_own h.ps).weaken (fun _ h=>.inr h),fun i x I=>by
  obtain ⟨u,G,E⟩:=d i x I;exact ⟨u,G,E.weaken z⟩⟩ (.inr h.hm) h.set
def Bo (ps:List (List Int)) (n:Int):List (List Int):=ps.set (ps.length - 1) (ps.getD (ps.length - 1) []++[n])
def AW (m:MZ) (ps:List (List Int)) (n:Int):List (List Int):=if finB m (Bo ps n)=true/\ps.length<m.tasks.length then Bo ps n++[[]] else Bo ps n
theorem ints_setCell {W:World} {v:Value} {b k:Nat} (h:zk W ok v l) (d:¬ ok b):zk (W.setCell ⟨b,k,none⟩ x) ok v l:=
 h.keep (fun g z _=>DA W ⟨b,k,none⟩ x g (fun e=>d (by rw [<-show g=b from e];exact z)))
theorem paths_set {w wt W9:World} {m:MZ} {ch us:List Int} {f u t v1 x15:Value} {gs gm b2 k:Nat} {q:List Int}
  (K:∀(i:Nat) (x:List Int),ps[i]?=some x->∃u,vs[i]?=some u/\zk w ok u x) (hl:vs.length=ps.length) (I:WO w wt m ch vs f u t gs gm v1 (.slice (some ⟨b2,0,none⟩) vs.length c) us) (V:zb wt W9) (a0:w.heap.size<=b2) (J:b2<wt.heap.size) (hk:k<vs.length)
  (hx:zk W9 (fun b=>wt.heap.size<=b) x15 q):
  ∀(i:Nat) (x:List Int),(ps.set k q)[i]?=some x->∃u,(vs.set k x15)[i]?=some u/\zk (W9.setCell ⟨b2,k,none⟩ x15) (fun b=>(ok b/\b<w.heap.size)\/wt.heap.size<=b) u x:=by
 intro i x D;by_cases z:k=i
 ·subst z;rw [List.getElem?_set_self (by omega)] at D;injection D with D;subst D;refine ⟨x15,by rw [List.getElem?_set_self hk],(ints_setCell hx (by omega)).weaken (fun b E=>.inr E)⟩
 ·rw [List.getElem?_set_ne z] at D;obtain ⟨u',Q,hr⟩:=K i x D;refine ⟨u',by rw [List.getElem?_set_ne z];exact Q,?_⟩
  have O:zk w (fun b=>ok b/\b<w.heap.size) u' x:=by
   obtain ⟨A,c',e,hc,L,d⟩:=hr;refine ⟨A,c',e,hc,L,fun U=>?_⟩;obtain ⟨b,off,e',E,G⟩:=d U
   have M:b<w.heap.size:=by
    have h0:0<(x.map (Value.int .i64)).length:=by simpa using U
    exact zn (G 0 _ (Do h0))
   exact ⟨b,off,e',⟨E,M⟩,G⟩
  exact ((ints_setCell (O.below (I.ext.trans V)) (by omega)).weaken (fun b E=>.inl E))
structure J7 (wk:World) (b2 k:Nat) (p:List Int) (n:Int) (up:Value) (e:Nat->Bool) (v:Nat->Value) (W:World):Prop where
 ext:e 17=false->zb wk W
 l:e 11=true->v 11=up
 c:e 12=true->e 15=false->zt W wk.heap.size (v 12) p
 b:e 14=true->e 15=false->∃g,v 14=.slice (some ⟨g,0,none⟩) 1 1/\W.cell? ⟨g,0,none⟩=some (.int .i64 n)
 ap:e 15=true->e 17=false->zt W wk.heap.size (v 15) (p++[n])
 ix:e 16=true->v 16=.pointer (some ⟨b2,k,none⟩)
 st:e 17=true->∃W9,zb wk W9/\zt W9 wk.heap.size (v 15) (p++[n])/\W=W9.setCell ⟨b2,k,none⟩ (v 15)
 d12:e 12=true->e 11=true
 d15:e 15=true->e 12=true/\e 14=true
 d17:e 17=true->e 15=true/\e 16=true
section
variable {wk W W':World} {b2 k:Nat} {p:List Int} {n:Int} {up:Value} {e:Nat->Bool} {v:Nat->Value}
theorem J7.init (he:∀j∈[11,12,14,15,16,17],e j=false):J7 wk b2 k p n up e v wk.drew:=
 ⟨fun _=>Ch,fun a=>ff (he 11 (by simp)) a,fun a=>ff (he 12 (by simp)) a,fun a=>ff (he 14 (by simp)) a,fun a=>ff (he 15 (by simp)) a,fun a=>ff (he 16 (by simp)) a,fun a=>ff (he 17 (by simp)) a,fun a=>ff (he 12 (by simp)) a,fun a=>ff (he 15 (by simp)) a,fun a=>ff (he 17 (by simp)) a⟩
theorem J7.n15 (h:J7 wk b2 k p n up e v W) (d:e 12=false):e 15=false:=notT (fun a=>(h.d15 a).1) d
theorem J7.n15' (h:J7 wk b2 k p n up e v W) (d:e 14=false):e 15=false:=notT (fun a=>(h.d15 a).2) d
theorem J7.n12 (h:J7 wk b2 k p n up e v W) (d:e 11=false):e 12=false:=notT h.d12 d
theorem J7.n17 (h:J7 wk b2 k p n up e v W) (d:e 15=false):e 17=false:=notT (fun a=>(h.d17 a).1) d
theorem J7.s11 (h:J7 wk b2 k p n up e v W):J7 wk b2 k p n up (zT e 11 true) (zT v 11 up) W:=
 ⟨h.ext,fun _=>rfl,h.c,h.b,h.ap,h.ix,h.st,fun _=>rfl,h.d15,h.d17⟩
theorem J7.s12 (h:J7 wk b2 k p n up e v W) (D:e 17=false) (d:e 15=false) (z:e 11=true) (E:zb W W') (J:zt W' wk.heap.size x p):J7 wk b2 k p n up (zT e 12 true) (zT v 12 x) W':=
 ⟨fun a=>(h.ext a).trans E,h.l,fun _ _=>J,fun a b=>(by obtain ⟨g,G,I⟩:=h.b a b;exact ⟨g,G,E.cell I⟩),fun a=>ff d a,h.ix,fun a=>ff D a,fun _=>z,fun a=>ff d a,h.d17⟩
theorem J7.s14 (h:J7 wk b2 k p n up e v W) (z:e 17=false) (d:e 15=false) (D:zb W W') (E:W'.cell? ⟨g,0,none⟩=some (.int .i64 n)):J7 wk b2 k p n up (zT e 14 true) (zT v 14 (.slice (some ⟨g,0,none⟩) 1 1)) W':=
 ⟨fun a=>(h.ext a).trans D,h.l,fun a b=>(h.c a b).ext D,fun _ _=>⟨g,rfl,E⟩,fun a=>ff d a,h.ix,fun a=>ff z a,h.d12,fun a=>ff d a,h.d17⟩
theorem J7.s15 (h:J7 wk b2 k p n up e v W) (D:e 17=false) (d:e 12=true) (z:e 14=true) (E:zb wk W') (G:zt W' wk.heap.size x (p++[n])):J7 wk b2 k p n up (zT e 15 true) (zT v 15 x) W':=
 ⟨fun _=>E,h.l,fun _ a=>(by cases a),fun _ a=>(by cases a),fun _ _=>G,h.ix,fun a=>ff D a,h.d12,fun _=>⟨d,z⟩,fun a=>⟨rfl,(h.d17 a).2⟩⟩
theorem J7.s16 (h:J7 wk b2 k p n up e v W):J7 wk b2 k p n up (zT e 16 true) (zT v 16 (.pointer (some ⟨b2,k,none⟩))) W:=
 ⟨h.ext,h.l,h.c,h.b,h.ap,fun _=>rfl,h.st,h.d12,h.d15,fun a=>⟨(h.d17 a).1,rfl⟩⟩
theorem J7.s17 (h:J7 wk b2 k p n up e v W) (z:e 17=false) (d:e 15=true) (D:e 16=true) (hW:W'=W.setCell ⟨b2,k,none⟩ (v 15)):J7 wk b2 k p n up (zT e 17 true) (zT v 17 x) W':=
 ⟨fun a=>(by cases a),h.l,fun _ a=>ff (b:=e 15) a d,fun _ a=>ff (b:=e 15) a d,fun _ a=>(by cases a),h.ix,fun _=>⟨W,h.ext z,h.ap d z,hW⟩,h.d12,h.d15,fun _=>⟨d,D⟩⟩
theorem WO.store {w:World} {m:MZ} {ch us:List Int} {vsp:List Value} {f u t v1:Value} {gs gm:Nat} (h:WO w W m ch vsp f u t gs gm v1 (.slice (some ⟨b2,0,none⟩) vsp.length c) us) (z:w.heap.size<=b2):
  WO w (W.setCell ⟨b2,k,none⟩ x) m ch (vsp.set k x) f u t gs gm v1 (.slice (some ⟨b2,0,none⟩) vsp.length c) us:=by
 have D:Bz (W.setCell ⟨b2,k,none⟩ x) w.heap.size (.slice (some ⟨b2,0,none⟩) vsp.length c) (vsp.set k x):=by
  have:=(World.ownsRow.stored h.ps k x).1;unfold Bz;rw [List.length_set];exact this
 have d:=(World.ownsRow.stored h.ps k x).2;have E:v1.ownBlock=none\/v1.ownBlock≠some b2:=own_ne h.ch h.ps (by decide);have G:b2≠gs:=fun e=>BN h.blk h.ps (by decide) (by rw [<-e];rfl)
 have I:b2≠gm:=fun e=>by
  rcases AQ h.ps h.set with h | h
  ·cases h
  ·exact h (by rw [<-e];rfl)
 exact ⟨Am h.ext d h.ext.size z,h.hs,h.hm,(d.block gs (za h.blk) (fun e=>by injection e with e;exact G e.symm)).trans h.blk,World.ownsRow.kept h.ch d E,D,(d.block gm (za h.set) (fun e=>by injection e with e;exact I e.symm)).trans h.set⟩
end
theorem with_calls {m:MZ} {ch us:List Int} {f u ts:Value} (n:Int) (w:World) (h:AJ w ok g m ch ps us f u ts vc vp gu) (so:SOk m ch ps) (so1:SOk m (ch++[n]) (Bo ps n)) (hp:0<ps.length):
  Calls Tryz.prog 162 #[.pointer (some ⟨g,0,none⟩),.int .i64 n] w fun e w'=>∃v',e=.returned v'/\zb w w'/\∃us',(∀x,x∈us'↔x=n\/x∈us)/\Cb w' (fun b=>ok b\/w.heap.size<=b) v' m (ch++[n]) (AW m ps n) us':=by
 obtain ⟨r0,r1,r2,r3,r4,r5,r6,r7,r8⟩:=h.rules;have n1:=h.ps;have o9:=h.ch;have m8:=h.maze;obtain ⟨fr',up',ts',b0,_,_,n4⟩:=m8;injection b0 with b0;injection b0 with b0;simp only [List.cons.injEq,and_true,true_and] at b0;obtain ⟨rfl,rfl,rfl⟩:=b0;obtain ⟨vst,⟨At,ct,rfl,p1,_⟩,_⟩:=n4;have SO1:=zh so1;clear so1;have HS:=zh h;clear h;have so_pl:ps.length<=6:=Dt so.pl so.good.tk;have SO:=zh so;clear so;obtain ⟨vs,a8,g9⟩:=n1
 have i2:vs.length=ps.length:=by
  obtain ⟨_,_,_,_,hr⟩:=a8;have:=hr.1;omega
 have h1:∀u∈vs,u.oneCell'=true:=by
  intro u hu;obtain ⟨i,hi,rfl⟩:=DX hu;obtain ⟨u',f0,n2⟩:=g9 i _ (Do (by omega:i<ps.length));rw [Do hi] at f0;injection f0 with f0;rw [f0];exact ints_oneCell n2
 rw [<-i2] at a8;have o4:vs.length<=6:=by have:=so_pl;omega
 have H1:=zh h1;clear h1;have V:=zh i2;clear i2;have i6:=zh a8;clear a8;have f8:=zh g9;clear g9;have p4:=@run_makeMap Tryz.prog;have hx:=zb.refl w
 go_enter Tryz.func162,Tryz.ntmps162
 go_wp2_with fail
 refine DH (S:=(fun w'=>zb w w')) (by kernel_rfl) (Ch) fun zH=>?_;refine zo 0 zH ?_;refine zo 1 zH ?_;simp only [zc,Dn];refine zo 2 zH ?_;refine zo 3 zH ?_;simp only [zc,Dn];refine zo 4 zH ?_;refine zo 5 zH ?_;simp only [zc,Dn];refine zo 6 zH ?_;refine zo 7 zH ?_;simp only [zc,Dn];refine zo 9 zH ?_;refine zo 12 zH ?_;simp only [zc,Dn];refine zo 13 zH ?_;refine zo 14 zH ?_;simp only [zc,Dn];refine zo 15 zH ?_;refine zo 18 zH ?_;simp only [zc,Dn];refine BI [8,10,11,16,17,19,20,21,22,23] (fun e v W=>JW w ch n vs m f u (.slice At m.tasks.length ct) e v W) (F:=?F1) (by kernel_rfl) (by kernel_rfl) (by decide) zH (fun v=>?hF1) ?init1 (by kernel_rfl) ?steps1 ?fin1
 case hF1=>(simp only [zA,Bw,List.getElem?_toArray,List.getElem?_cons_succ,List.getElem?_cons_zero,Option.bind,Act.put,List.setIfInBounds_toArray,List.set_cons_succ,List.set_cons_zero];rfl)
 case init1=>
  intro e v he;exact JW.init he
 case steps1=>
  refine zj.cons rfl (fun e v W K d hW he D z=>?_) ?_
  ·simp only [zc] at D z⊢;go_simp;go_at_call 97;refine (cloneI_calls _ (HS.out.ext hW).ch (by have:=SO.out.cl;omega)).mono ?_;rintro e9 w9 ⟨v9,rfl,hM⟩;exact z.out _ v9 _ (by rfl) (hW.trans hM.ext) ((d.keep hM.ext).s8 (d.n11 he) (hM.own.mono hW.size))
  refine zj.cons rfl (fun e v W K d hW he D z=>?_) ?_
  ·simp only [zc] at D z⊢;go_simp;exact z.out _ _ _ (by rfl) (hW.alloc _) ((d.keep ((zb.refl W).alloc _)).s10 (zR _ _ _ rfl))
  refine zj.cons rfl (fun e v W K d hW he D z=>?_) ?_
  ·simp only [zc] at D z⊢;have h8:e 8=true:=zq D [8] (by kernel_rfl) 8 (by simp);have l8:e 10=true:=zq D [10] (by kernel_rfl) 10 (by simp);obtain ⟨gb,k4,j3⟩:=d.b l8 he;rw [if_pos (by rfl)];refine BJ (ok:=fun _=>True) W _ _ (by rfl) w.heap.size ch [n] (v 8) (v 10) (by rfl) (by rfl) (d.c1 h8 he) (by rw [k4];exact ints_one j3) hW.size (by have:=SO.out.cl;simp;omega) ?_;intro v9 w9 ho hg _;exact z.out _ v9 _ (by rfl) (Ab hW hg hW.size (fun k hk=>AF (d.c1 h8 he) hk)) (d.s11 h8 he (d.n21 he) (d.n22 (d.n21 he)) ho hg)
  refine zj.cons rfl (fun e v W K d hW he D z=>?_) ?_
  ·simp only [zc] at D z⊢;go_simp;go_at_call 198;refine (cloneL_calls _ (i6.out.below hW) H1.out (by omega)).mono ?_;rintro e9 w9 ⟨v9,rfl,hE,hO⟩;exact z.out _ v9 _ (by rfl) (hW.trans hE) ((d.keep hE).s16 (d.n21' he) (d.n22 (d.n21' he)) (hO.mono hW.size))
  refine zj.cons rfl (fun e v W K d hW he D z=>?_) ?_
  ·simp only [zc] at D z⊢;go_simp;exact z.out _ _ _ (by rfl) (hW.alloc _) ((d.keep ((zb.refl W).alloc _)).s17 (d.n19 he) (d.n20 (d.n19 he)) hW.size (zu.new _))
  refine zj.cons rfl (fun e v W K d hW he D z=>?_) ?_
  ·simp only [zc] at D z⊢;have J:e 17=true:=zq D [17] (by kernel_rfl) 17 (by simp);obtain ⟨gm,G,h4,M⟩:=d.mm J;rw [he] at M;obtain ⟨w9,f7,d7,b1⟩:=run_add M n 152 Tryz.underlying152;have n3:(Instr.mapUpdate 152 (v 17) (.int .i64 n) (.bool true)).run Tryz.prog W=.ok () w9:=by rw [G];exact f7
   have HJ:=zh (d.s19 (x:=undef) J G M (d.n22 (d.n21'' (d.n20 he))) (by have:=d7;rwa [ins_new (by simp)] at this) b1 h4);clear f7 d7 M G;go_simp;exact z.out _ undef _ (by rfl) HJ.out.ext HJ.out
  refine zj.cons rfl (fun e v W K d hW he D z=>?_) ?_
  ·simp only [zc] at D z⊢;have l9:e 19=true:=zq D [19] (by kernel_rfl) 19 (by simp);go_simp;exact z.out _ (v 17) _ (by rfl) hW (d.s20 l9 (d.n21'' he) (d.n22 (d.n21'' he)))
  refine zj.cons rfl (fun e v W K d hW he D z=>?_) ?_
  ·simp only [zc] at D z⊢;have b6:e 11=true:=zq D [11] (by kernel_rfl) 11 (by simp);have b7:e 16=true:=zq D [16] (by kernel_rfl) 16 (by simp);have g3:e 20=true:=zq D [20] (by kernel_rfl) 20 (by simp);obtain ⟨A1,c1,d8,_⟩:=AV (d.ap b6);obtain ⟨A2,c2,e0,_⟩:=Aw.of_own (d.c2 b7);have J:=d.d19 (d.d20 g3);obtain ⟨gm,G,_,_⟩:=d.mm J;have a9:=(d.mv g3).trans G;clear G;go_simp;exact z.out _ (.agg #[.int .i64 m.w,.int .i64 m.h,.int .i64 m.l,f,u,.slice At m.tasks.length ct,v 11,v 16,v 20]) _ (by simp [Act.put,d8,e0,a9]) hW (d.s21 ⟨b6,b7,g3⟩ rfl)
  refine zj.cons rfl (fun e v W K d hW he D z=>?_) ?_
  ·simp only [zc] at D z⊢;have i8:e 21=true:=zq D [21] (by kernel_rfl) 21 (by simp);have k6:=d.bd i8;go_simp;exact z.out _ _ _ (by simp [Act.put,k6]) (hW.alloc _) ((d.keep ((zb.refl W).alloc _)).s22 i8 (d.n23 he) hW.size (ze.new _ _ _ rfl))
  refine zj.cons rfl (fun e v W K d hW he D z=>?_) ?_
  ·simp only [zc] at D z⊢;have m0:e 22=true:=zq D [22] (by kernel_rfl) 22 (by simp);go_simp;exact z.out _ (v 22) _ (by rfl) hW (d.s23 m0)
  exact zj.nil
 case fin1=>
  intro v W d hW;have e1:=d.fin rfl;obtain ⟨gs,e3,m6,d5⟩:=d.bx rfl;obtain ⟨gm,G,h4,M⟩:=d.mm rfl;have a9:=(d.mv rfl).trans G;have e2:=e1.trans e3;rw [a9] at d5;have E:Hid (WO w W m (ch++[n]) vs f u (.slice At m.tasks.length ct) gs gm (v 11) (v 16) [n]):=⟨d.ext,m6,h4,d5,d.ap rfl,d.c2 rfl,by simpa using M⟩;generalize v 11=v1 at*;generalize v 16=v2 at*;rw [e2,e3];clear d d5 M a9 G e3 e1 e2;have p8:=run_range_map (P:=Tryz.prog) W 152 3 4 gu _ us.length Tryz.underlying152 ((HS.out.ext hW).us);have j1:Hid (RW w (W.alloc (.mapIter (some gu) us.length #[] us.length)) m (ch++[n]) vs f u (.slice At m.tasks.length ct) gs gm v1 v2 [n] W.heap.size gu us n #[] us.length):=⟨E.out.keep ((zb.refl W).alloc _),Ee _ _,hW.size,Dq _,((HS.out.ext hW).us).below ((zb.refl W).alloc _),fun x=>by simp⟩;have m7:gu<w.heap.size:=za HS.out.us;have p7:=r8 W hW
  go_wp2_with fail
  generalize W.heap.size=r at*
  go_loopg [6] (leftN us.length #[]) (fun gk s6 wr=>∃us2 seen c0,gk=leftN us.length seen/\Hid (RW w wr m (ch++[n]) vs f u (.slice At m.tasks.length ct) gs gm v1 v2 us2 r gu us n seen c0))
  case atStart=>exact ⟨[n],#[],us.length,rfl,j1⟩
  clear j1
  case round=>
   obtain ⟨us2,seen,c0,rfl,hR⟩:=hrel;rcases set_next (P:=Tryz.prog) hR.out.old hR.out.it hR.out.hc with ⟨f5,i0⟩ | ⟨i,hi,m9,w1,g6,i0,m5⟩
   ·have d6:Hid (∀x,x∈us2↔x=n\/x∈us):=fun x=>by rw [hR.out.mem];exact mem_all f5
    have E:=zh hR.out.wo;have a2:=zh (WO.st HS.out f8.out hR.out.wo V.out);have b3:=hR.out.wo.ext
    go_wp2_with fail
    clear hR f5 i0;obtain ⟨wk,rfl⟩:∃wk:World,wk=wr:=⟨_,rfl⟩;refine (Ar _ a2.out (by omega)).mono ?_;rintro e wt ⟨Q,e5⟩;have e5:zb wk wt:=e5 ▸ zb.refl _;obtain ⟨k,hk⟩:∃k,ps.length=k+1:=⟨ps.length - 1,by omega⟩;have j9:(ps.length:Int) - 1=(k:Int):=by omega
    rw [j9] at Q;subst Q;have E:=zh (E.out.keep e5);have b3:=E.out.ext;clear a2 e5 j9;have h7:k<ps.length:=by omega
    obtain ⟨up,k3,h6⟩:=f8.out k _ (Do h7);obtain ⟨p,e8⟩:=Ez (ps[k]);rw [<-e8] at h6;have p5:p.length<=1000:=by rw [e8];exact SO.out.pp _ (Dr h7)
    have l4:=zh e8;clear e8;have l5:=zh h6;clear h6;have k9:vs.length=k+1:=by have:=V.out;omega
    obtain ⟨b2,cp2,n5,g7,a3⟩:=World.ownsRow.form E.out.ps (by omega);subst n5;have j5:wt.cell? ⟨b2,k,none⟩=some up:=by rw [World.ownsRow.cellAt E.out.ps k (by omega)];exact k3
    have hfz:wt.frozen? ⟨b2,k,none⟩=false:=World.ownsRow.frozenAt E.out.ps k;have rup:=zb.rule j5;have a6:wt.cell? ⟨gs,7,none⟩=some (.slice (some ⟨b2,0,none⟩) vs.length cp2):=E.out.blk.cell rfl;have e7:gs<wt.heap.size:=za E.out.blk;have j7:gs≠b2:=fun e=>BN E.out.blk E.out.ps (by decide) (by rw [e];rfl)
    have l6:=zh k9;have o3:(k:Int)<(vs.length:Int):=by omega
    have o2:(0:Int)<=(k:Int):=by omega
    have o0:=own_capL E.out.ps;clear j5 k3 hk k9
    go_wp2_with fail
    refine DH (S:=(fun W=>zb w W/\W.cell? ⟨gs,7,none⟩=some (.slice (some ⟨b2,0,none⟩) vs.length cp2))) (by kernel_rfl) (⟨b3.drew,a6⟩) fun zH=>?_;refine zo 0 zH ?_;refine zo 1 zH ?_;simp only [zc,Dn];refine zo 2 zH ?_;refine zo 3 zH ?_;simp only [zc,Dn];refine zo 4 zH ?_;refine zo 5 zH ?_;simp only [zc,Dn];refine zo 6 zH ?_;refine zo 7 zH ?_;simp only [zc,Dn];refine zo 8 zH ?_;refine zo 9 zH ?_;simp only [zc,Dn];refine zo 10 zH ?_;refine zo 13 zH ?_;simp only [zc,Dn];refine BI [11,12,14,15,16,17] (fun e v W=>J7 wt b2 k p n up e v W) (F:=?F16) (by kernel_rfl) (by kernel_rfl) (by decide) zH (fun v=>?hF16) ?init16 (by kernel_rfl) ?steps16 ?fin16
    case hF16=>(simp only [zA,Bw,List.getElem?_toArray,List.getElem?_cons_succ,List.getElem?_cons_zero,Option.bind,Act.put,List.setIfInBounds_toArray,List.set_cons_succ,List.set_cons_zero];rfl)
    case init16=>
     intro e v he;exact J7.init he
    case steps16=>
     refine zj.cons rfl (fun e v W K d hW he D z=>?_) ?_
     ·simp only [zc] at D z⊢;have hE:=d.ext (d.n17 (d.n15 (d.n12 he)));have m3:=rup W hE;go_simp;exact z.out _ up _ (by rfl) hW (d.s11)
     refine zj.cons rfl (fun e v W K d hW he D z=>?_) ?_
     ·simp only [zc] at D z⊢;have b6:e 11=true:=zq D [11] (by kernel_rfl) 11 (by simp);have O:=d.n15 he;have J:=d.n17 O;have hE:=d.ext J;have d8:=d.l b6;go_simp;go_at_call 97;refine (cloneI_calls _ (l5.out.below (b3.trans hE)) (by omega)).mono ?_;rintro e9 w9 ⟨v9,rfl,hM⟩;exact z.out _ v9 _ (by simp [Act.put,d8]) ⟨hW.1.trans hM.ext,hM.ext.cell hW.2⟩ (d.s12 J O b6 hM.ext (hM.own.mono hE.size))
     refine zj.cons rfl (fun e v W K d hW he D z=>?_) ?_
     ·simp only [zc] at D z⊢;have O:=d.n15' he;have J:=d.n17 O;go_simp;exact z.out _ _ _ (by rfl) ⟨hW.1.alloc _,((zb.refl W).alloc _).cell hW.2⟩ (d.s14 J O ((zb.refl W).alloc _) (zR _ _ _ rfl))
     refine zj.cons rfl (fun e v W K d hW he D z=>?_) ?_
     ·simp only [zc] at D z⊢;have g1:e 12=true:=zq D [12] (by kernel_rfl) 12 (by simp);have i7:e 14=true:=zq D [14] (by kernel_rfl) 14 (by simp);have J:=d.n17 he;obtain ⟨gb,k5,j4⟩:=d.b i7 he;have hE:=d.ext J;rw [if_pos (by rfl)];refine BJ (ok:=fun _=>True) W _ _ (by rfl) wt.heap.size p [n] (v 12) (v 14) (by rfl) (by rfl) (d.c g1 he) (by rw [k5];exact ints_one j4) hE.size (by simp;omega) ?_;intro v9 w9 ho hg _;have a1:zb wt w9:=Ab hE hg hE.size (fun k hk=>AF (d.c g1 he) hk);exact z.out _ v9 _ (by rfl) ⟨b3.trans a1,a1.cell a6⟩ (d.s15 J g1 i7 a1 ho)
     refine zj.cons rfl (fun e v W K d hW he D z=>?_) ?_
     ·simp only [zc] at D z⊢;go_simp;exact z.out _ _ _ (by rfl) hW d.s16
     refine zj.cons rfl (fun e v W K d hW he D z=>?_) ?_
     ·simp only [zc] at D z⊢;have O:e 15=true:=zq D [15] (by kernel_rfl) 15 (by simp);have b7:e 16=true:=zq D [16] (by kernel_rfl) 16 (by simp);have hE:=d.ext he;have i9:=d.ap O he;obtain ⟨A9,c9,d9,_⟩:=AV i9;rw [show (p++[n]).length=p.length+1 from by simp] at d9;have e0:=d.ix b7;have m3:=rup W hE;have p3:W.frozen? ⟨b2,k,none⟩=false:=(hE.frozen (p:=⟨b2,k,none⟩) a3).trans hfz;have HJ:=zh (d.s17 (x:=undef) he O b7 rfl);have HE:=zh (show zb w (W.setCell ⟨b2,k,none⟩ (v 15))/\(W.setCell ⟨b2,k,none⟩ (v 15)).cell? ⟨gs,7,none⟩=some (.slice (some ⟨b2,0,none⟩) vs.length cp2) from ⟨(b3.trans hE).setCell g7 _,(DG (w:=W) (DA W _ _ gs (fun e=>j7 e))).trans hW.2⟩);rw [d9] at HJ HE;go_simp;exact z.out _ undef _ (by simp [Act.put,d9,e0]) HE.out HJ.out
     exact zj.nil
    case fin16=>
     intro v W d hW;obtain ⟨W9,a1,j0,g5⟩:=d.st rfl;generalize v 15=x15 at*;have c8:=zh ((E.out.keep a1).store (k:=k) (x:=x15) g7);have b8:Hid (∀(i:Nat) (x:List Int),(ps.set k (p++[n]))[i]?=some x->∃u,(vs.set k x15)[i]?=some u/\zk W (fun b=>(ok b/\b<w.heap.size)\/wt.heap.size<=b) u x):=by rw [g5];exact paths_set f8.out V.out E.out a1 g7 a3 (by omega) (Aw.of_own j0)
     rw [<-g5] at c8;clear d j0 g5 E a6 rup a1;have E:=c8;clear c8;have d4:Bo ps n=ps.set k (p++[n]):=by unfold Bo;rw [show ps.length - 1=k from by have:=V.out;have:=l6.out;omega,l4.out];simp [h7]
     rw [<-d4] at b8;have n8:=zh d4;clear d4;have e4:Hid ((vs.set k x15).length=(Bo ps n).length):=by have:=V.out;show _=_;unfold Bo;simp;omega
     have l0:Hid ((vs.set k x15).length=vs.length):=by show _=_;simp
     have g6:Hid ((Bo ps n).length=ps.length):=by show _=_;unfold Bo;simp
     generalize vs.set k x15=vs1 at*;have f6:Hid (∀b,((ok b/\b<w.heap.size)\/wt.heap.size<=b)->ok b\/w.heap.size<=b):=fun b hb=>by rcases hb with h | h;exact .inl h.1;exact .inr (Dt b3.size h)
     have a2:=zh (WO.st2 HS.out.maze E.out e4.out b8.out f6.out);have i3:=E.out.ext;have k8:Hid (b2<wt.heap.size):=a3;have h5:Hid (gs<wt.heap.size):=e7;have f4:0<(Bo ps n).length:=by have:=g6.out;omega
     have a6:W.cell? ⟨gs,7,none⟩=some (.slice (some ⟨b2,0,none⟩) vs.length cp2):=E.out.blk.cell rfl;have o1:=r5 W i3;obtain ⟨b,hb⟩:=Ez (finB m (Bo ps n));have HB:=zh hb;clear hb;have j6:∀q:Nat,Calls Tryz.prog 164 #[.pointer (some ⟨gs,0,none⟩)] (W.drewN q) fun e w'=>e=.returned (.bool b)/\zB (W.drewN q) w':=fun q=>by rw [HB.out];exact Da _ (a2.out.ext ((zb.refl W).drewN q)) SO1.out f4
     have f9:=zh j6;clear j6;clear f4
     cases b with
     | false=>
      have U:AW m ps n=Bo ps n:=by unfold AW;rw [if_neg (fun h=>by rw [<-HB.out] at h;cases h.1)]
      have b5:=zh U;clear U
      go_wp2_with fail
      go_quiet ((go_at_call 164;refine (f9.out _).mono ?_;rintro e w9 ⟨Q,nd,rfl⟩;exact ⟨Q,⟨_,World.drewN_drewN _ _ _⟩⟩))
      go_wp2_with fail
      go_ret;exact ⟨_,rfl,i3.drewN _,us2,d6.out,gs,_,_,_,_,_,gm,rfl,by rw [b5.out];exact a2.out.ext ((zb.refl W).drewN _)⟩
     | true=>
      by_cases h9:vs.length<m.tasks.length
      ·have U:AW m ps n=Bo ps n++[[]]:=by unfold AW;rw [if_pos ⟨HB.out.symm,by have:=V.out;omega⟩]
       have b5:=zh U;clear U;have D:decide ((vs.length:Int)<(m.tasks.length:Int))=true:=Du (by omega)
       go_wp2_with fail
       go_quiet ((go_at_call 164;refine (f9.out _).mono ?_;rintro e w9 ⟨Q,nd,rfl⟩;exact ⟨Q,⟨_,World.drewN_drewN _ _ _⟩⟩))
       generalize j2:W.drewN nq=W4;have g4:zb W W4:=by rw [<-j2];exact (zb.refl W).drewN _
       clear j2;have a5:=zh (E.out.keep g4);have I:=zh (a5.out.keep ((zb.refl W4).alloc (.cells #[.slice none 0 0] 23)));have q2:=a5.out.ext;have o7:W4.cell? ⟨gs,7,none⟩=some (.slice (some ⟨b2,0,none⟩) vs.length cp2):=a5.out.blk.cell rfl;have n7:w.heap.size<=(W4.alloc (.cells #[.slice none 0 0] 23)).heap.size:=I.out.ext.size;have q1:vs1.length<=6:=by have:=l0.out;omega
       go_wp2_with (at_builtin;refine BV (ok:=fun _=>True) rfl _ _ _ rfl w.heap.size vs1 [.slice none 0 0] _ _ rfl rfl I.out.ps (row_nil1 (g:=W4.heap.size) (zR _ _ _ rfl) trivial) (by simp [Value.oneCell']) n7 (by simp;omega) ?_)
       intro v' w6 i1 e6 _;have c7:=zh (I.out.app i1 e6.out);have g8:ze w6 gs 154 _:=(e6.out.block gs (za I.out.blk) (fun e=>BN I.out.blk I.out.ps (by decide) e.symm)).trans I.out.blk;have o8:=g8.cell (k:=7) rfl;have p2:=g8.frozen 7
       have b9:Hid (zN (fun b=>(ok b/\b<w.heap.size)\/wt.heap.size<=b) W (w6.setCell ⟨gs,7,none⟩ v')):=fun b hb h9=>by
        have k2:b≠gs/\b≠b2:=by
         have h1:=E.out.hs;have h2:=h5.out;have h3:=k8.out;rcases hb with h | h <;> omega
        rw [DA w6 ⟨gs,7,none⟩ v' b k2.1,e6.out.block b (DT h9 (g4.trans ((zb.refl W4).alloc _)).size) (fun e=>k2.2 (by have e':some b=some b2:=e;injection e'))];exact (g4.trans ((zb.refl W4).alloc (.cells #[.slice none 0 0] 23))).block b h9
       have f1:=zh (paths_app b8.out e4.out b9.out);have f3:=zh (WO.st2 HS.out.maze c7.out (by have:=e4.out;simp;omega) f1.out f6.out);obtain ⟨A6,c6,k7,_⟩:=Aw.of_own i1;subst k7;have k1:(vs1++[Value.slice none 0 0]).length=vs1.length+1:=by simp
       rw [k1] at c7 f3;clear k1;clear i1 e6 g8 b9 f1 I a5 a2
       go_wp2_with fail
       go_ret;exact ⟨_,rfl,c7.out.ext,us2,d6.out,gs,_,_,_,_,_,gm,rfl,by rw [b5.out];exact f3.out⟩
      ·have U:AW m ps n=Bo ps n:=by unfold AW;rw [if_neg (fun h=>by have:=h.2;have:=V.out;omega)]
       have b5:=zh U;clear U;have D:decide ((vs.length:Int)<(m.tasks.length:Int))=false:=Dv (by omega)
       go_wp2_with fail
       go_quiet ((go_at_call 164;refine (f9.out _).mono ?_;rintro e w9 ⟨Q,nd,rfl⟩;exact ⟨Q,⟨_,World.drewN_drewN _ _ _⟩⟩))
       go_wp2_with fail
       go_ret;exact ⟨_,rfl,i3.drewN _,us2,d6.out,gs,_,_,_,_,_,gm,rfl,by rw [b5.out];exact a2.out.ext ((zb.refl W).drewN _)⟩
   ·obtain ⟨L,a7,a4⟩:=hR.out.step (i:=i) m7 g6;generalize setBlock w1 r (.mapIter (some gu) us.length (seen.push i) us.length)=W2 at*;have n6:=L.ext;have m4:W2.cell? ⟨gs,8,none⟩=some (.map (some gm)):=L.blk.cell rfl
    go_wp2_with (at_mapUpdate;refine wpSetAdd rfl _ _ _ _ rfl Tryz.underlying152 gm us2 us[i] rfl rfl rfl L.set ?_)
    intro w9 d7 b1;have m2:Hid (RW w w9 m (ch++[n]) vs f u (.slice At m.tasks.length ct) gs gm v1 v2 (ins us2 us[i]) r gu us n (seen.push i) us.length):=⟨L.add d7 b1,(b1.block r (za a7) (fun e=>by injection e with e;exact iter_ne a7 L.set (fun _ _ _ _ h=>by cases h) e.symm)).trans a7,hR.out.hr,Dq _,(b1.block gu (za a4) (fun e=>by injection e with e;have:=L.hm;omega)).trans a4,fun x=>by rw [mem_ins,hR.out.mem];exact mem_step hi⟩;clear d7 b1 L a7 a4 n6 m4 hR i0 m5
    go_wp2_with fail
    go_roundg (leftN us.length (seen.push i))
    case measure=>exact leftN_step hi m9
    case rel=>exact ⟨_,_,_,rfl,m2⟩
end
end Go.Proofs.YtnmkmhpgnpojbaaGreatDoor
