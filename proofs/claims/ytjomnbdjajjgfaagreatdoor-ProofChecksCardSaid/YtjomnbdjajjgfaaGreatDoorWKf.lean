import Derived.Test.YtjomnbdjajjgfaaGreatDoorWKe
import Derived.Deep.LoopGhost
import Derived.Deep.DeepCutAuto
set_option linter.unusedVariables false
set_option linter.unusedSimpArgs false
set_option maxRecDepth 100000
set_option maxHeartbeats 16000000
namespace Go.Proofs.YtjomnbdjajjgfaaGreatDoor
variable {seen:Array Nat} {cs:Array Value} {b:Bool} {ps:List (List Int)} {l:List Int} {vs xs:List Value} {c c0 g gu i r since:Nat} {ok ok2:Nat->Prop} {o:Obj} {vc vp x:Value} {w1:World}
section
open Go.RowKit
open Go.ChangeMaps (setBlock)
attribute [local go_sem ↓] Go.wp_at_zero Go.wp_at_succ
theorem zw {md:Region.Mode} {es:Array Edge} {e:Nat->Bool} (G:∀d∈es,Region.binds md d=true->e d.on=true) (ks:List Nat) (h:(ks.all fun k=>es.toList.any fun d=>Region.binds md d && decide (d.on=k))=true):∀k∈ks,e k=true:=by
 intro k I;obtain ⟨d,E,D⟩:=ET.1 (EU.1 h k I);simp only [Ed,Eb] at D;rw [<-D.2];exact G d (by simpa using E) D.1
section
variable {W W':World} {B:Nat}
theorem zB.ext {v:Value} (h:zB W B v l) (D:za W W'):zB W' B v l:=h.kept (row:=none) ⟨D.os,D.tape,D.output,D.size,fun i E _=>D.block i E⟩ (by cases h:v.ownBlock <;> simp)
theorem BN.ext {v:Value} (h:BN W B v vs) (D:za W W'):BN W' B v vs:=World.ownsRow.kept h (row:=none) ⟨D.os,D.tape,D.output,D.size,fun i E _=>D.block i E⟩ (by cases h:v.ownBlock <;> simp)
theorem own_ne {e e':TypeId} {v v':Value} {n n':Nat} {xs':List Value} {B':Nat} (h:W.ownsRow B e 1 v n xs) (G:W.ownsRow B' e' 1 v' n' xs') (E:e≠e'):v.ownBlock=none\/v.ownBlock≠v'.ownBlock:=by
 rcases h.2 with ⟨rfl,_⟩ | ⟨g,cap,cur,rfl,_,I,_⟩
 ·exact .inl rfl
 ·refine .inr fun e=>?_
  rcases G.2 with ⟨rfl,_⟩ | ⟨g',cap',cur',rfl,_,D,_⟩
  ·cases e
  ·have e:some g=some g':=e;injection e with e;subst e;rw [I] at D;injection D with D;injection D with _ ht;exact E ht
theorem Bl {e:TypeId} {v:Value} {n:Nat} (h:W.ownsRow B e 1 v n xs) (D:zG W g l):v.ownBlock=none\/v.ownBlock≠some g:=by
 rcases h.2 with ⟨rfl,_⟩ | ⟨g',cap,cur,rfl,_,E,_⟩
 ·exact .inl rfl
 ·refine .inr fun e=>?_
  have e:some g'=some g:=e;injection e with e;subst e;unfold zG at D;rw [E] at D;injection D with D;cases D
end
theorem CM {W:World} {x:Int} (h:W.cell? ⟨g,0,none⟩=some (.int .i64 x)):zk W (fun _=>True) (.slice (some ⟨g,0,none⟩) 1 1) [x]:=
 ⟨some ⟨g,0,none⟩,1,rfl,DR _,rfl,fun _=>⟨g,0,rfl,trivial,fun j u D=>by
  match j,D with
  | 0,D=>
   have:u=.int .i64 x:=by simpa using D.symm
   subst this;exact h⟩⟩
structure JW (w:World) (ch:List Int) (n:Int) (vsp:List Value) (m:MZ) (f u t:Value) (e:Nat->Bool) (v:Nat->Value) (W:World):Prop where
 ext:za w W
 c1:e 8=true->e 11=false->zB W w.heap.size (v 8) ch
 b:e 10=true->e 11=false->∃g,v 10=.slice (some ⟨g,0,none⟩) 1 1/\W.cell? ⟨g,0,none⟩=some (.int .i64 n)
 ap:e 11=true->zB W w.heap.size (v 11) (ch++[n])
 c2:e 16=true->BN W w.heap.size (v 16) vsp
 mm:e 17=true->∃gu,v 17=.map (some gu)/\w.heap.size<=gu/\zG W gu (if e 19 then [n] else [])
 mv:e 20=true->v 20=v 17
 bd:e 21=true->v 21=.agg #[.int .i64 m.w,.int .i64 m.h,.int .i64 m.l,f,u,t,v 11,v 16,v 20]
 bx:e 22=true->∃gs,v 22=.pointer (some ⟨gs,0,none⟩)/\w.heap.size<=gs/\zd W gs 207 #[.int .i64 m.w,.int .i64 m.h,.int .i64 m.l,f,u,t,v 11,v 16,v 20]
 fin:e 23=true->v 23=v 22
 d11:e 11=true->e 8=true
 d19:e 19=true->e 17=true
 d20:e 20=true->e 19=true
 d21:e 21=true->e 11=true/\e 16=true/\e 20=true
 d22:e 22=true->e 21=true
 d23:e 23=true->e 22=true
theorem ff {C:Prop} (h:b=false) (a:b=true):C:=by rw [h] at a;cases a
section
variable {w W W':World} {ch:List Int} {n:Int} {vsp:List Value} {m:MZ} {f u t:Value} {e:Nat->Bool} {v:Nat->Value}
theorem JW.keep (h:JW w ch n vsp m f u t e v W) (D:za W W'):JW w ch n vsp m f u t e v W':=
 ⟨h.ext.trans D,fun a b=>(h.c1 a b).ext D,fun a b=>by obtain ⟨g,h1,h2⟩:=h.b a b;exact ⟨g,h1,D.cell h2⟩,fun a=>(h.ap a).ext D,fun a=>(h.c2 a).ext D,
  fun a=>by obtain ⟨g,h1,h2,h3⟩:=h.mm a;exact ⟨g,h1,h2,h3.below D⟩,h.mv,h.bd,fun a=>by obtain ⟨g,h1,h2,h3⟩:=h.bx a;exact ⟨g,h1,h2,h3.ext D⟩,h.fin,h.d11,h.d19,h.d20,h.d21,h.d22,h.d23⟩
theorem JW.s8 (h:JW w ch n vsp m f u t e v W) (D:e 11=false) (E:zB W w.heap.size x ch):JW w ch n vsp m f u t (AM e 8 true) (AM v 8 x) W:=by
 exact ⟨h.ext,fun _ _=>E,h.b,h.ap,h.c2,h.mm,h.mv,h.bd,h.bx,h.fin,fun _=>rfl,h.d19,h.d20,h.d21,h.d22,h.d23⟩
theorem JW.s10 (h:JW w ch n vsp m f u t e v W) (D:W.cell? ⟨g,0,none⟩=some (.int .i64 n)):JW w ch n vsp m f u t (AM e 10 true) (AM v 10 (.slice (some ⟨g,0,none⟩) 1 1)) W:=by
 exact ⟨h.ext,h.c1,fun _ _=>⟨g,rfl,D⟩,h.ap,h.c2,h.mm,h.mv,h.bd,h.bx,h.fin,h.d11,h.d19,h.d20,h.d21,h.d22,h.d23⟩
theorem JW.s11 (h:JW w ch n vsp m f u t e v W) (K:e 8=true) (D:e 11=false) (E:e 21=false) (G:e 22=false) (M:zB W' w.heap.size x (ch++[n])) (I:Hid (W.grownBy W' (v 8).ownBlock)):JW w ch n vsp m f u t (AM e 11 true) (AM v 11 x) W':=by
 have J:=h.c1 K D;refine ⟨?_,?_,?_,?_,?_,?_,?_,?_,?_,?_,fun _=>K,h.d19,h.d20,fun a=>⟨rfl,(h.d21 a).2⟩,h.d22,h.d23⟩
 ·exact zS h.ext I h.ext.size (fun k L=>Ao J L)
 ·exact fun _ h=>by cases h
 ·exact fun _ h=>by cases h
 ·exact fun _=>M
 ·exact fun a=>World.ownsRow.kept (h.c2 a) I.out (own_ne (h.c2 a) J (by decide))
 ·intro a;obtain ⟨gu,h1,h2,h3⟩:=h.mm a;refine ⟨gu,h1,h2,(I.out.block gu (zc h3) (fun e=>?_)).trans h3⟩;rcases Bl J h3 with h4 | h4
  ·rw [h4] at e;cases e
  ·exact h4 e.symm
 ·exact h.mv
 ·exact fun a=>ff E a
 ·exact fun a=>ff G a
 ·exact h.fin
theorem JW.s16 (h:JW w ch n vsp m f u t e v W) (D:e 21=false) (E:e 22=false) (G:BN W w.heap.size x vsp):JW w ch n vsp m f u t (AM e 16 true) (AM v 16 x) W:=by
 exact ⟨h.ext,h.c1,h.b,h.ap,fun _=>G,h.mm,h.mv,fun a=>ff D a,fun a=>ff E a,h.fin,h.d11,h.d19,h.d20,fun a=>⟨(h.d21 a).1,rfl,(h.d21 a).2.2⟩,h.d22,h.d23⟩
theorem JW.s17 (h:JW w ch n vsp m f u t e v W) (D:e 19=false) (E:e 20=false) (G:w.heap.size<=g) (I:zG W g []):JW w ch n vsp m f u t (AM e 17 true) (AM v 17 (.map (some g))) W:=by
 exact ⟨h.ext,h.c1,h.b,h.ap,h.c2,fun _=>⟨g,rfl,G,by show zG _ _ (if e 19=true then [n] else []);rw [D];exact I⟩,fun a=>ff E a,h.bd,h.bx,h.fin,h.d11,fun _=>rfl,h.d20,h.d21,h.d22,h.d23⟩
theorem JW.s19 (h:JW w ch n vsp m f u t e v W) (I:e 17=true) (K:v 17=.map (some gu)) (G:zG W gu []) (J:e 22=false) (L:zG W' gu [n]) (D:W.grownBy W' (some gu)) (E:w.heap.size<=gu):JW w ch n vsp m f u t (AM e 19 true) (AM v 19 x) W':=by
 refine ⟨?_,?_,?_,?_,?_,?_,?_,?_,?_,?_,h.d11,fun _=>I,fun _=>rfl,h.d21,h.d22,h.d23⟩
 ·exact BA h.ext D h.ext.size E
 ·exact fun a b=>World.ownsRow.kept (h.c1 a b) D (Bl (h.c1 a b) G)
 ·intro a b;obtain ⟨g,h1,h2⟩:=h.b a b;refine ⟨g,h1,(World.grownBy.cell D h2 (fun e=>?_))⟩;injection e with e;have:g=gu:=e;subst this;unfold zG at G;unfold World.cell? at h2;simp [G,mapObj] at h2
 ·exact fun a=>World.ownsRow.kept (h.ap a) D (Bl (h.ap a) G)
 ·exact fun a=>World.ownsRow.kept (h.c2 a) D (Bl (h.c2 a) G)
 ·exact fun _=>⟨gu,K,E,L⟩
 ·exact h.mv
 ·exact h.bd
 ·exact fun a=>ff J a
 ·exact h.fin
theorem JW.s20 (h:JW w ch n vsp m f u t e v W) (D:e 19=true) (E:e 21=false) (G:e 22=false):JW w ch n vsp m f u t (AM e 20 true) (AM v 20 (v 17)) W:=by
 exact ⟨h.ext,h.c1,h.b,h.ap,h.c2,h.mm,fun _=>rfl,fun a=>ff E a,fun a=>ff G a,h.fin,h.d11,h.d19,fun _=>D,fun a=>⟨(h.d21 a).1,(h.d21 a).2.1,rfl⟩,h.d22,h.d23⟩
theorem JW.s21 (h:JW w ch n vsp m f u t e v W) (D:e 11=true/\e 16=true/\e 20=true) (E:x=.agg #[.int .i64 m.w,.int .i64 m.h,.int .i64 m.l,f,u,t,v 11,v 16,v 20]):JW w ch n vsp m f u t (AM e 21 true) (AM v 21 x) W:=by
 exact ⟨h.ext,h.c1,h.b,h.ap,h.c2,h.mm,h.mv,fun _=>E,h.bx,h.fin,h.d11,h.d19,h.d20,fun _=>D,fun _=>rfl,h.d23⟩
theorem JW.s22 {gs:Nat} (h:JW w ch n vsp m f u t e v W) (D:e 21=true) (E:e 23=false) (I:w.heap.size<=gs) (G:zd W gs 207 #[.int .i64 m.w,.int .i64 m.h,.int .i64 m.l,f,u,t,v 11,v 16,v 20]):JW w ch n vsp m f u t (AM e 22 true) (AM v 22 (.pointer (some ⟨gs,0,none⟩))) W:=by
 exact ⟨h.ext,h.c1,h.b,h.ap,h.c2,h.mm,h.mv,h.bd,fun _=>⟨gs,rfl,I,G⟩,fun a=>ff E a,h.d11,h.d19,h.d20,h.d21,fun _=>D,fun _=>rfl⟩
theorem JW.s23 (h:JW w ch n vsp m f u t e v W) (D:e 22=true):JW w ch n vsp m f u t (AM e 23 true) (AM v 23 (v 22)) W:=by
 exact ⟨h.ext,h.c1,h.b,h.ap,h.c2,h.mm,h.mv,h.bd,h.bx,fun _=>rfl,h.d11,h.d19,h.d20,h.d21,h.d22,fun _=>D⟩
theorem JW.init {w:World} {ch:List Int} {n:Int} {vsp:List Value} {m:MZ} {f u t:Value} {e:Nat->Bool} {v:Nat->Value} (he:∀j∈[8,10,11,16,17,19,20,21,22,23],e j=false):JW w ch n vsp m f u t e v w.drew:=
 ⟨Dj,fun a=>ff (he 8 (by simp)) a,fun a=>ff (he 10 (by simp)) a,fun a=>ff (he 11 (by simp)) a,fun a=>ff (he 16 (by simp)) a,fun a=>ff (he 17 (by simp)) a,fun a=>ff (he 20 (by simp)) a,fun a=>ff (he 21 (by simp)) a,
  fun a=>ff (he 22 (by simp)) a,fun a=>ff (he 23 (by simp)) a,fun a=>ff (he 11 (by simp)) a,fun a=>ff (he 19 (by simp)) a,fun a=>ff (he 20 (by simp)) a,fun a=>ff (he 21 (by simp)) a,fun a=>ff (he 22 (by simp)) a,fun a=>ff (he 23 (by simp)) a⟩
theorem notT {c:Bool} (h:b=true->c=true) (D:c=false):b=false:=by
 cases b with
 | false=>rfl
 | true=>exact absurd (h rfl) (by rw [D];simp)
theorem JW.n11 (h:JW w ch n vsp m f u t e v W) (D:e 8=false):e 11=false:=notT h.d11 D
theorem JW.n21 (h:JW w ch n vsp m f u t e v W) (D:e 11=false):e 21=false:=notT (fun a=>(h.d21 a).1) D
theorem JW.n21' (h:JW w ch n vsp m f u t e v W) (D:e 16=false):e 21=false:=notT (fun a=>(h.d21 a).2.1) D
theorem JW.n21'' (h:JW w ch n vsp m f u t e v W) (D:e 20=false):e 21=false:=notT (fun a=>(h.d21 a).2.2) D
theorem JW.n22 (h:JW w ch n vsp m f u t e v W) (D:e 21=false):e 22=false:=notT h.d22 D
theorem JW.n23 (h:JW w ch n vsp m f u t e v W) (D:e 22=false):e 23=false:=notT h.d23 D
theorem JW.n20 (h:JW w ch n vsp m f u t e v W) (D:e 19=false):e 20=false:=notT h.d20 D
theorem JW.n19 (h:JW w ch n vsp m f u t e v W) (D:e 17=false):e 19=false:=notT h.d19 D
end
structure WO (w W:World) (m:MZ) (ch:List Int) (vsp:List Value) (f u t:Value) (gs gm:Nat) (v1 v2:Value) (us:List Int):Prop where
 ext:za w W
 hs:w.heap.size<=gs
 hm:w.heap.size<=gm
 blk:zd W gs 207 (stCells m f u t v1 v2 gm)
 ch:zB W w.heap.size v1 ch
 ps:BN W w.heap.size v2 vsp
 set:zG W gm us
section
variable {w W W':World} {m:MZ} {ch us us':List Int} {vsp:List Value} {f u t v1 v2:Value} {gs gm:Nat}
theorem WO.keep (h:WO w W m ch vsp f u t gs gm v1 v2 us) (D:za W W'):WO w W' m ch vsp f u t gs gm v1 v2 us:=
 ⟨h.ext.trans D,h.hs,h.hm,h.blk.ext D,h.ch.ext D,h.ps.ext D,h.set.below D⟩
theorem blk_set_ne {W:World} {g':Nat} {t:TypeId} (h:zd W g t cs) (D:zG W g' l):g≠g':=by
 rintro rfl;unfold zd at h;unfold zG mapObj at D;rw [h] at D
 cases D
theorem WO.add (h:WO w W m ch vsp f u t gs gm v1 v2 us) (E:zG W' gm us') (D:W.grownBy W' (some gm)):WO w W' m ch vsp f u t gs gm v1 v2 us':=
 ⟨BA h.ext D h.ext.size h.hm,h.hs,h.hm,(D.block gs (zc h.blk) (fun e=>by injection e with e;exact blk_set_ne h.blk h.set e)).trans h.blk,
  World.ownsRow.kept h.ch D (Bl h.ch h.set),World.ownsRow.kept h.ps D (Bl h.ps h.set),E⟩
theorem grown_iter {W:World} (h:w1=W\/w1=W.drew):W.grownBy (setBlock w1 r o) (some r):=by
 have h1:w1.heap=W.heap/\w1.os=W.os/\w1.tape=W.tape/\w1.output=W.output:=by rcases h with rfl | rfl <;> exact ⟨rfl,rfl,rfl,rfl⟩
 refine ⟨h1.2.1,h1.2.2.1,h1.2.2.2,by simp [setBlock,h1.1],fun k _ D=>?_⟩;rw [Dp _ (fun e=>D (by rw [e])),h1.1]
theorem iter_ne {W:World} {k:Nat} (h:IterIs W r g since seen c0) (D:W.heap[k]?=some o) (E:∀a b c d,o≠.mapIter a b c d):k≠r:=by
 rintro rfl;unfold IterIs at h;rw [D] at h;injection h with h;exact E _ _ _ _ h
theorem own_iter_ne {W:World} {B:Nat} {e:TypeId} {v:Value} {n:Nat} (h:W.ownsRow B e 1 v n xs) (E:IterIs W r g since seen c0):v.ownBlock=none\/v.ownBlock≠some r:=by
 rcases h.2 with ⟨rfl,_⟩ | ⟨g',cap,cur,rfl,_,D,_⟩
 ·exact .inl rfl
 ·refine .inr fun e=>?_
  have e:some g'=some r:=e;injection e with e;exact iter_ne E D (fun _ _ _ _ h=>by cases h) e
theorem own_capL {w:World} {B:Nat} (h:BN w B (.slice (some ⟨g,0,none⟩) vs.length c) vs):vs.length<=c:=Bx h
theorem WO.st {ch0 us0:List Int} (h0:BJ w ok g m ch0 ps us0 f u t vc vp gu) (D:∀(i:Nat) (x:List Int),ps[i]?=some x->∃u,vsp[i]?=some u/\zk w ok u x) (h:WO w W m ch vsp f u t gs gm v1 v2 us)
  (E:vsp.length=ps.length):BJ W (fun b=>ok b\/w.heap.size<=b) gs m ch ps us f u t v1 v2 gm:=
 BJ.make h.ext h0.maze (fun _ h=>.inl h) h.blk (.inr h.hs) ((Ae.of_own h.ch).weaken (fun _ h=>.inr h)) ⟨vsp,by rw [<-E];exact (Ae.of_own h.ps).weaken (fun _ h=>.inr h),fun i x J=>by
  obtain ⟨u,I,G⟩:=D i x J;exact ⟨u,I,(G.below h.ext).weaken (fun _ h=>.inl h)⟩⟩ (.inr h.hm) h.set
theorem mem_step {us:List Int} {n x:Int} (E:i<us.length):((x=n\/∃j,us[j]?=some x/\seen.contains j=true)\/x=us[i])↔(x=n\/∃j,us[j]?=some x/\(seen.push i).contains j=true):=by
 have D:∀j,(seen.push i).contains j=true↔seen.contains j=true\/j=i:=by
  intro j;simp
 constructor
 ·rintro ((h | ⟨j,h1,h2⟩) | h)
  ·exact .inl h
  ·exact .inr ⟨j,h1,(D j).2 (.inl h2)⟩
  ·exact .inr ⟨i,by rw [DO E,h],(D i).2 (.inr rfl)⟩
 ·rintro (h | ⟨j,h1,h2⟩)
  ·exact .inl (.inl h)
  ·rcases (D j).1 h2 with h3 | rfl
   ·exact .inl (.inr ⟨j,h1,h3⟩)
   ·rw [DO E] at h1;injection h1 with h1;exact .inr h1.symm
theorem mem_all {us:List Int} {n x:Int} (h:∀i,i<us.length->seen.contains i=true):(x=n\/∃j,us[j]?=some x/\seen.contains j=true)↔(x=n\/x∈us):=by
 constructor
 ·rintro (h1 | ⟨j,h1,_⟩)
  ·exact .inl h1
  ·exact .inr (List.mem_of_getElem? h1)
 ·rintro (h1 | h1)
  ·exact .inl h1
  ·obtain ⟨j,D,rfl⟩:=Ex h1;exact .inr ⟨j,DO D,h j D⟩
structure RW (w W:World) (m:MZ) (ch:List Int) (vsp:List Value) (f u t:Value) (gs gm:Nat) (v1 v2:Value) (us2:List Int) (r gu:Nat) (us:List Int) (n:Int) (seen:Array Nat) (c0:Nat):Prop where
 wo:WO w W m ch vsp f u t gs gm v1 v2 us2
 it:IterIs W r gu us.length seen c0
 hr:w.heap.size<=r
 hc:us.length<=c0
 old:zG W gu us
 mem:∀x,x∈us2↔x=n\/∃i,us[i]?=some x/\seen.contains i=true
theorem RW.step {w W:World} {m:MZ} {ch us us2:List Int} {vsp:List Value} {f u t v1 v2:Value} {gs gm:Nat} {n:Int} (h:RW w W m ch vsp f u t gs gm v1 v2 us2 r gu us n seen c0) (I:gu<w.heap.size) (G:w1=W\/w1=W.drew):
  WO w (setBlock w1 r (.mapIter (some gu) us.length (seen.push i) us.length)) m ch vsp f u t gs gm v1 v2 us2/\IterIs (setBlock w1 r (.mapIter (some gu) us.length (seen.push i) us.length)) r gu us.length (seen.push i) us.length/\zG (setBlock w1 r (.mapIter (some gu) us.length (seen.push i) us.length)) gu us:=by
 have E:W.grownBy (setBlock w1 r (.mapIter (some gu) us.length (seen.push i) us.length)) (some r):=grown_iter G;have h1:w1.heap=W.heap:=by rcases G with rfl | rfl <;> rfl
 have D:∀(k:Nat) (o:Obj),W.heap[k]?=some o->(∀a b c d,o≠.mapIter a b c d)->k≠r:=fun k o J K=>iter_ne h.it J K
 refine ⟨⟨BA h.wo.ext E h.wo.ext.size h.hr,h.wo.hs,h.wo.hm,?_,World.ownsRow.kept h.wo.ch E (own_iter_ne h.wo.ch h.it),World.ownsRow.kept h.wo.ps E (own_iter_ne h.wo.ps h.it),?_⟩,?_,?_⟩
 ·exact (E.block gs (zc h.wo.blk) (fun e=>by injection e with e;exact D _ _ h.wo.blk (fun _ _ _ _ h=>by cases h) e)).trans h.wo.blk
 ·exact (E.block gm (zc h.wo.set) (fun e=>by injection e with e;exact D _ _ h.wo.set (fun _ _ _ _ h=>by cases h) e)).trans h.wo.set
 ·exact setBlock_same _ (by rw [h1];exact zc h.it)
 ·exact (E.block gu (zc h.old) (fun e=>by injection e with e;exact D _ _ h.old (fun _ _ _ _ h=>by cases h) e)).trans h.old
end
theorem paths_app {W W3:World} (E:∀(i:Nat) (x:List Int),ps[i]?=some x->∃u,vs[i]?=some u/\zk W ok2 u x) (I:vs.length=ps.length) (G:zK ok2 W W3):
  ∀(i:Nat) (x:List Int),(ps++[[]])[i]?=some x->∃u,(vs++[.slice none 0 0])[i]?=some u/\zk W3 ok2 u x:=by
 intro i x D;by_cases h:i<ps.length
 ·rw [DW h] at D;obtain ⟨u,K,J⟩:=E i x D;exact ⟨u,by rw [DW (by omega)];exact K,J.keep G⟩
 ·rw [DX (by omega)] at D
  have h0:i - ps.length=0:=by
   rcases EC (i - ps.length) with h | h
   ·exact h
   ·rw [Ek (by simp;omega)] at D;cases D
  rw [h0] at D;have:x=[]:=by simpa using D.symm
  subst this;exact ⟨_,by rw [DX (by omega),I,h0];rfl,zk.nil _ _⟩
theorem row_nil1 {W:World} (h:W.cell? ⟨g,0,none⟩=some (.slice none 0 0)) (E:ok g):Ae W ok 1 (.slice (some ⟨g,0,none⟩) 1 1) [Value.slice none 0 0].length [.slice none 0 0]:=
 ⟨some ⟨g,0,none⟩,1,rfl,DR _,rfl,fun _=>⟨g,0,rfl,E,fun j u D=>by
  match j,D with
  | 0,D=>
   have:u=.slice none 0 0:=by simpa using D.symm
   subst this;exact h⟩⟩
theorem Cl {W:World} {t e:TypeId} {B:Nat} {v:Value} {n:Nat} (h:zd W g t cs) (E:W.ownsRow B e 1 v n xs) (D:e≠t):v.ownBlock≠some g:=zl E h D
theorem WO.app {w W W2:World} {m:MZ} {ch us:List Int} {vs':List Value} {f u t v1 v2 v2':Value} {gs gm:Nat} (h:WO w W m ch vs f u t gs gm v1 v2 us) (K:BN W2 w.heap.size v2' vs') (E:W.grownBy W2 v2.ownBlock):
  WO w (W2.setCell ⟨gs,7,none⟩ v2') m ch vs' f u t gs gm v1 v2' us:=by
 have G:gs<W.heap.size:=zc h.blk;have I:some gs≠v2.ownBlock:=fun e=>Cl h.blk h.ps (by decide) e.symm
 have D:zd W2 gs 207 (stCells m f u t v1 v2 gm):=(E.block gs G I).trans h.blk;have J:zB W2 w.heap.size v1 ch:=World.ownsRow.kept h.ch E (own_ne h.ch h.ps (by decide))
 have L:zG W2 gm us:=(E.block gm (zc h.set) (fun e=>by
  rcases Bl h.ps h.set with h | h
  ·rw [h] at e;cases e
  ·exact h e.symm)).trans h.set
 exact ⟨(h.ext.grown E h.ext.size (fun k M=>(World.ownsRow.lt h.ps k M).1)).setCell h.hs _,h.hs,h.hm,D.set v2',ownsRow_setCell_other J (Cl D J (by decide)) _,ownsRow_setCell_other K (Cl D K (by decide)) _,
  (Ea W2 _ _ gm (fun e=>blk_set_ne D L e.symm)).trans L⟩
theorem WO.st2 {w W:World} {m:MZ} {ch us:List Int} {f u t v1 v2:Value} {gs gm:Nat} (hm:zt w ok (.agg #[.int .i64 m.w,.int .i64 m.h,.int .i64 m.l,f,u,t]) m) (h:WO w W m ch vs f u t gs gm v1 v2 us) (G:vs.length=ps.length)
  (D:∀(i:Nat) (x:List Int),ps[i]?=some x->∃u,vs[i]?=some u/\zk W ok2 u x) (E:∀b,ok2 b->ok b\/w.heap.size<=b):BJ W (fun b=>ok b\/w.heap.size<=b) gs m ch ps us f u t v1 v2 gm:=
 BJ.make h.ext hm (fun _ h=>.inl h) h.blk (.inr h.hs) ((Ae.of_own h.ch).weaken (fun _ h=>.inr h)) ⟨vs,by rw [<-G];exact (Ae.of_own h.ps).weaken (fun _ h=>.inr h),fun i x K=>by
  obtain ⟨u,J,I⟩:=D i x K;exact ⟨u,J,I.weaken E⟩⟩ (.inr h.hm) h.set
def BQ (ps:List (List Int)) (n:Int):List (List Int):=ps.set (ps.length - 1) (ps.getD (ps.length - 1) []++[n])
def Bv (m:MZ) (ps:List (List Int)) (n:Int):List (List Int):=if finB m (BQ ps n)=true/\ps.length<m.tasks.length then BQ ps n++[[]] else BQ ps n
theorem ints_setCell {W:World} {v:Value} {b k:Nat} (h:zk W ok v l) (D:¬ ok b):zk (W.setCell ⟨b,k,none⟩ x) ok v l:=
 h.keep (fun g E _=>Ea W ⟨b,k,none⟩ x g (fun e=>D (by rw [<-show g=b from e];exact E)))
theorem paths_set {w wt W9:World} {m:MZ} {ch us:List Int} {f u t v1 x15:Value} {gs gm b2 k:Nat} {q:List Int}
  (M:∀(i:Nat) (x:List Int),ps[i]?=some x->∃u,vs[i]?=some u/\zk w ok u x) (hl:vs.length=ps.length) (K:WO w wt m ch vs f u t gs gm v1 (.slice (some ⟨b2,0,none⟩) vs.length c) us) (hE:za wt W9) (a2:w.heap.size<=b2) (L:b2<wt.heap.size) (hk:k<vs.length)
  (hx:zk W9 (fun b=>wt.heap.size<=b) x15 q):
  ∀(i:Nat) (x:List Int),(ps.set k q)[i]?=some x->∃u,(vs.set k x15)[i]?=some u/\zk (W9.setCell ⟨b2,k,none⟩ x15) (fun b=>(ok b/\b<w.heap.size)\/wt.heap.size<=b) u x:=by
 intro i x G;by_cases E:k=i
 ·subst E;rw [List.getElem?_set_self (by omega)] at G;injection G with G;subst G;refine ⟨x15,by rw [List.getElem?_set_self hk],(ints_setCell hx (by omega)).weaken (fun b I=>.inr I)⟩
 ·rw [List.getElem?_set_ne E] at G;obtain ⟨u',V,hr⟩:=M i x G;refine ⟨u',by rw [List.getElem?_set_ne E];exact V,?_⟩
  have U:zk w (fun b=>ok b/\b<w.heap.size) u' x:=by
   obtain ⟨A,c',e,hc,O,D⟩:=hr;refine ⟨A,c',e,hc,O,fun hn=>?_⟩;obtain ⟨b,off,e',I,J⟩:=D hn
   have Q:b<w.heap.size:=by
    have h0:0<(x.map (Value.int .i64)).length:=by simpa using hn
    exact zA (J 0 _ (DO h0))
   exact ⟨b,off,e',⟨I,Q⟩,J⟩
  exact ((ints_setCell (U.below (K.ext.trans hE)) (by omega)).weaken (fun b I=>.inl I))
structure J7 (wk:World) (b2 k:Nat) (p:List Int) (n:Int) (up:Value) (e:Nat->Bool) (v:Nat->Value) (W:World):Prop where
 ext:e 17=false->za wk W
 l:e 11=true->v 11=up
 c:e 12=true->e 15=false->zB W wk.heap.size (v 12) p
 b:e 14=true->e 15=false->∃g,v 14=.slice (some ⟨g,0,none⟩) 1 1/\W.cell? ⟨g,0,none⟩=some (.int .i64 n)
 ap:e 15=true->e 17=false->zB W wk.heap.size (v 15) (p++[n])
 ix:e 16=true->v 16=.pointer (some ⟨b2,k,none⟩)
 st:e 17=true->∃W9,za wk W9/\zB W9 wk.heap.size (v 15) (p++[n])/\W=W9.setCell ⟨b2,k,none⟩ (v 15)
 d12:e 12=true->e 11=true
 d15:e 15=true->e 12=true/\e 14=true
 d17:e 17=true->e 15=true/\e 16=true
section
variable {wk W W':World} {b2 k:Nat} {p:List Int} {n:Int} {up:Value} {e:Nat->Bool} {v:Nat->Value}
theorem J7.init (he:∀j∈[11,12,14,15,16,17],e j=false):J7 wk b2 k p n up e v wk.drew:=
 ⟨fun _=>Dj,fun a=>ff (he 11 (by simp)) a,fun a=>ff (he 12 (by simp)) a,fun a=>ff (he 14 (by simp)) a,fun a=>ff (he 15 (by simp)) a,fun a=>ff (he 16 (by simp)) a,fun a=>ff (he 17 (by simp)) a,fun a=>ff (he 12 (by simp)) a,fun a=>ff (he 15 (by simp)) a,fun a=>ff (he 17 (by simp)) a⟩
theorem J7.n15 (h:J7 wk b2 k p n up e v W) (D:e 12=false):e 15=false:=notT (fun a=>(h.d15 a).1) D
theorem J7.n15' (h:J7 wk b2 k p n up e v W) (D:e 14=false):e 15=false:=notT (fun a=>(h.d15 a).2) D
theorem J7.n12 (h:J7 wk b2 k p n up e v W) (D:e 11=false):e 12=false:=notT h.d12 D
theorem J7.n17 (h:J7 wk b2 k p n up e v W) (D:e 15=false):e 17=false:=notT (fun a=>(h.d17 a).1) D
theorem J7.s11 (h:J7 wk b2 k p n up e v W):J7 wk b2 k p n up (AM e 11 true) (AM v 11 up) W:=
 ⟨h.ext,fun _=>rfl,h.c,h.b,h.ap,h.ix,h.st,fun _=>rfl,h.d15,h.d17⟩
theorem J7.s12 (h:J7 wk b2 k p n up e v W) (G:e 17=false) (D:e 15=false) (E:e 11=true) (I:za W W') (J:zB W' wk.heap.size x p):J7 wk b2 k p n up (AM e 12 true) (AM v 12 x) W':=
 ⟨fun a=>(h.ext a).trans I,h.l,fun _ _=>J,fun a b=>(by obtain ⟨g,h1,h2⟩:=h.b a b;exact ⟨g,h1,I.cell h2⟩),fun a=>ff D a,h.ix,fun a=>ff G a,fun _=>E,fun a=>ff D a,h.d17⟩
theorem J7.s14 (h:J7 wk b2 k p n up e v W) (E:e 17=false) (D:e 15=false) (G:za W W') (I:W'.cell? ⟨g,0,none⟩=some (.int .i64 n)):J7 wk b2 k p n up (AM e 14 true) (AM v 14 (.slice (some ⟨g,0,none⟩) 1 1)) W':=
 ⟨fun a=>(h.ext a).trans G,h.l,fun a b=>(h.c a b).ext G,fun _ _=>⟨g,rfl,I⟩,fun a=>ff D a,h.ix,fun a=>ff E a,h.d12,fun a=>ff D a,h.d17⟩
theorem J7.s15 (h:J7 wk b2 k p n up e v W) (G:e 17=false) (D:e 12=true) (E:e 14=true) (I:za wk W') (J:zB W' wk.heap.size x (p++[n])):J7 wk b2 k p n up (AM e 15 true) (AM v 15 x) W':=
 ⟨fun _=>I,h.l,fun _ a=>(by cases a),fun _ a=>(by cases a),fun _ _=>J,h.ix,fun a=>ff G a,h.d12,fun _=>⟨D,E⟩,fun a=>⟨rfl,(h.d17 a).2⟩⟩
theorem J7.s16 (h:J7 wk b2 k p n up e v W):J7 wk b2 k p n up (AM e 16 true) (AM v 16 (.pointer (some ⟨b2,k,none⟩))) W:=
 ⟨h.ext,h.l,h.c,h.b,h.ap,fun _=>rfl,h.st,h.d12,h.d15,fun a=>⟨(h.d17 a).1,rfl⟩⟩
theorem J7.s17 (h:J7 wk b2 k p n up e v W) (E:e 17=false) (D:e 15=true) (G:e 16=true) (hW:W'=W.setCell ⟨b2,k,none⟩ (v 15)):J7 wk b2 k p n up (AM e 17 true) (AM v 17 x) W':=
 ⟨fun a=>(by cases a),h.l,fun _ a=>ff (b:=e 15) a D,fun _ a=>ff (b:=e 15) a D,fun _ a=>(by cases a),h.ix,fun _=>⟨W,h.ext E,h.ap D E,hW⟩,h.d12,h.d15,fun _=>⟨D,G⟩⟩
theorem WO.store {w:World} {m:MZ} {ch us:List Int} {vsp:List Value} {f u t v1:Value} {gs gm:Nat} (h:WO w W m ch vsp f u t gs gm v1 (.slice (some ⟨b2,0,none⟩) vsp.length c) us) (E:w.heap.size<=b2):
  WO w (W.setCell ⟨b2,k,none⟩ x) m ch (vsp.set k x) f u t gs gm v1 (.slice (some ⟨b2,0,none⟩) vsp.length c) us:=by
 have h2:BN (W.setCell ⟨b2,k,none⟩ x) w.heap.size (.slice (some ⟨b2,0,none⟩) vsp.length c) (vsp.set k x):=by
  have:=(World.ownsRow.stored h.ps k x).1;unfold BN;rw [List.length_set];exact this
 have D:=(World.ownsRow.stored h.ps k x).2;have h3:v1.ownBlock=none\/v1.ownBlock≠some b2:=own_ne h.ch h.ps (by decide);have G:b2≠gs:=fun e=>Cl h.blk h.ps (by decide) (by rw [<-e];rfl)
 have I:b2≠gm:=fun e=>by
  rcases Bl h.ps h.set with h | h
  ·cases h
  ·exact h (by rw [<-e];rfl)
 exact ⟨BA h.ext D h.ext.size E,h.hs,h.hm,(D.block gs (zc h.blk) (fun e=>by injection e with e;exact G e.symm)).trans h.blk,World.ownsRow.kept h.ch D h3,h2,(D.block gm (zc h.set) (fun e=>by injection e with e;exact I e.symm)).trans h.set⟩
end
theorem with_calls {m:MZ} {ch us:List Int} {f u ts:Value} (n:Int) (w:World) (h:BJ w ok g m ch ps us f u ts vc vp gu) (so:SOk m ch ps) (so1:SOk m (ch++[n]) (BQ ps n)) (hp:0<ps.length):
  Calls Tryz.prog 149 #[.pointer (some ⟨g,0,none⟩),.int .i64 n] w fun e w'=>∃v',e=.returned v'/\za w w'/\∃us',(∀x,x∈us'↔x=n\/x∈us)/\CC w' (fun b=>ok b\/w.heap.size<=b) v' m (ch++[n]) (Bv m ps n) us':=by
 obtain ⟨r0,r1,r2,r3,r4,r5,r6,r7,r8⟩:=h.rules;have n3:=h.ps;have p4:=h.ch;have n0:=h.maze;obtain ⟨fr',up',ts',b1,_,_,n6⟩:=n0;injection b1 with b1;injection b1 with b1;simp only [List.cons.injEq,and_true,true_and] at b1;obtain ⟨rfl,rfl,rfl⟩:=b1;obtain ⟨vst,⟨At,ct,rfl,p5,_⟩,_⟩:=n6;have SO1:=zh so1;clear so1;have HS:=zh h;clear h;have so_pl:ps.length<=6:=DT so.pl so.good.tk;have SO:=zh so;clear so;obtain ⟨vs,a9,h4⟩:=n3
 have i3:vs.length=ps.length:=by
  obtain ⟨_,_,_,_,hr⟩:=a9;have:=hr.1;omega
 have h1:∀u∈vs,u.oneCell'=true:=by
  intro u hu;obtain ⟨i,hi,rfl⟩:=Ex hu;obtain ⟨u',f1,n4⟩:=h4 i _ (DO (by omega:i<ps.length));rw [DO hi] at f1;injection f1 with f1;rw [f1];exact ints_oneCell n4
 rw [<-i3] at a9;have o6:vs.length<=6:=by have:=so_pl;omega
 have H1:=zh h1;clear h1;have a0:=zh i3;clear i3;have i7:=zh a9;clear a9;have f9:=zh h4;clear h4;have p8:=@run_makeMap Tryz.prog;have hx:=za.refl w
 go_enter Tryz.func149,Tryz.ntmps149
 go_wp2_with fail
 refine Eh (S:=(fun w'=>za w w')) (by kernel_rfl) (Dj) fun zH=>?_;refine zg 0 zH ?_;refine zg 1 zH ?_;simp only [zb,DN];refine zg 2 zH ?_;refine zg 3 zH ?_;simp only [zb,DN];refine zg 4 zH ?_;refine zg 5 zH ?_;simp only [zb,DN];refine zg 6 zH ?_;refine zg 7 zH ?_;simp only [zb,DN];refine zg 9 zH ?_;refine zg 12 zH ?_;simp only [zb,DN];refine zg 13 zH ?_;refine zg 14 zH ?_;simp only [zb,DN];refine zg 15 zH ?_;refine zg 18 zH ?_;simp only [zb,DN];refine BD [8,10,11,16,17,19,20,21,22,23] (fun e v W=>JW w ch n vs m f u (.slice At m.tasks.length ct) e v W) (F:=?F1) (by kernel_rfl) (by kernel_rfl) (by decide) zH (fun v=>?hF1) ?init1 (by kernel_rfl) ?steps1 ?fin1
 case hF1=>(simp only [zX,Cj,List.getElem?_toArray,List.getElem?_cons_succ,List.getElem?_cons_zero,Option.bind,Act.put,List.setIfInBounds_toArray,List.set_cons_succ,List.set_cons_zero];rfl)
 case init1=>
  intro e v he;exact JW.init he
 case steps1=>
  refine zn.cons rfl (fun e v W K D hW he G E=>?_) ?_
  ·simp only [zb] at G E⊢;go_simp;go_at_call 92;refine (cloneI_calls _ (HS.out.ext hW).ch (by have:=SO.out.cl;omega)).mono ?_;rintro e9 w9 ⟨v9,rfl,hM⟩;exact E.out _ v9 _ (by rfl) (hW.trans hM.ext) ((D.keep hM.ext).s8 (D.n11 he) (hM.own.mono hW.size))
  refine zn.cons rfl (fun e v W K D hW he G E=>?_) ?_
  ·simp only [zb] at G E⊢;go_simp;exact E.out _ _ _ (by rfl) (hW.alloc _) ((D.keep ((za.refl W).alloc _)).s10 (zC _ _ _ rfl))
  refine zn.cons rfl (fun e v W K D hW he G E=>?_) ?_
  ·simp only [zb] at G E⊢;have h8:e 8=true:=zw G [8] (by kernel_rfl) 8 (by simp);have m0:e 10=true:=zw G [10] (by kernel_rfl) 10 (by simp);obtain ⟨gb,k7,j4⟩:=D.b m0 he;rw [if_pos (by rfl)];refine Ci (ok:=fun _=>True) W _ _ (by rfl) w.heap.size ch [n] (v 8) (v 10) (by rfl) (by rfl) (D.c1 h8 he) (by rw [k7];exact CM j4) hW.size (by have:=SO.out.cl;simp;omega) ?_;intro v9 w9 ho hg _;exact E.out _ v9 _ (by rfl) (zS hW hg hW.size (fun k hk=>Ao (D.c1 h8 he) hk)) (D.s11 h8 he (D.n21 he) (D.n22 (D.n21 he)) ho hg)
  refine zn.cons rfl (fun e v W K D hW he G E=>?_) ?_
  ·simp only [zb] at G E⊢;go_simp;go_at_call 185;refine (cloneL_calls _ (i7.out.below hW) H1.out (by omega)).mono ?_;rintro e9 w9 ⟨v9,rfl,hE,hO⟩;exact E.out _ v9 _ (by rfl) (hW.trans hE) ((D.keep hE).s16 (D.n21' he) (D.n22 (D.n21' he)) (hO.mono hW.size))
  refine zn.cons rfl (fun e v W K D hW he G E=>?_) ?_
  ·simp only [zb] at G E⊢;go_simp;exact E.out _ _ _ (by rfl) (hW.alloc _) ((D.keep ((za.refl W).alloc _)).s17 (D.n19 he) (D.n20 (D.n19 he)) hW.size (zG.new _))
  refine zn.cons rfl (fun e v W K D hW he G E=>?_) ?_
  ·simp only [zb] at G E⊢;have M:e 17=true:=zw G [17] (by kernel_rfl) 17 (by simp);obtain ⟨gm,J,h5,AO⟩:=D.mm M;rw [he] at AO;obtain ⟨w9,f8,d8,b3⟩:=run_add AO n 205 Tryz.underlying205;have n5:(Instr.mapUpdate 205 (v 17) (.int .i64 n) (.bool true)).run Tryz.prog W=.ok () w9:=by rw [J];exact f8
   have HJ:=zh (D.s19 (x:=undef) M J AO (D.n22 (D.n21'' (D.n20 he))) (by have:=d8;rwa [ins_new (by simp)] at this) b3 h5);clear f8 d8 AO J;go_simp;exact E.out _ undef _ (by rfl) HJ.out.ext HJ.out
  refine zn.cons rfl (fun e v W K D hW he G E=>?_) ?_
  ·simp only [zb] at G E⊢;have m1:e 19=true:=zw G [19] (by kernel_rfl) 19 (by simp);go_simp;exact E.out _ (v 17) _ (by rfl) hW (D.s20 m1 (D.n21'' he) (D.n22 (D.n21'' he)))
  refine zn.cons rfl (fun e v W K D hW he G E=>?_) ?_
  ·simp only [zb] at G E⊢;have b7:e 11=true:=zw G [11] (by kernel_rfl) 11 (by simp);have b8:e 16=true:=zw G [16] (by kernel_rfl) 16 (by simp);have g4:e 20=true:=zw G [20] (by kernel_rfl) 20 (by simp);obtain ⟨A1,c1,d9,_⟩:=AA (D.ap b7);obtain ⟨A2,c2,e3,_⟩:=Ae.of_own (D.c2 b8);have M:=D.d19 (D.d20 g4);obtain ⟨gm,J,_,_⟩:=D.mm M;have b0:=(D.mv g4).trans J;clear J;go_simp;exact E.out _ (.agg #[.int .i64 m.w,.int .i64 m.h,.int .i64 m.l,f,u,.slice At m.tasks.length ct,v 11,v 16,v 20]) _ (by simp [Act.put,d9,e3,b0]) hW (D.s21 ⟨b7,b8,g4⟩ rfl)
  refine zn.cons rfl (fun e v W K D hW he G E=>?_) ?_
  ·simp only [zb] at G E⊢;have i9:e 21=true:=zw G [21] (by kernel_rfl) 21 (by simp);have k9:=D.bd i9;go_simp;exact E.out _ _ _ (by simp [Act.put,k9]) (hW.alloc _) ((D.keep ((za.refl W).alloc _)).s22 i9 (D.n23 he) hW.size (zd.new _ _ _ rfl))
  refine zn.cons rfl (fun e v W K D hW he G E=>?_) ?_
  ·simp only [zb] at G E⊢;have m2:e 22=true:=zw G [22] (by kernel_rfl) 22 (by simp);go_simp;exact E.out _ (v 22) _ (by rfl) hW (D.s23 m2)
  exact zn.nil
 case fin1=>
  intro v W D hW;have e1:=D.fin rfl;obtain ⟨gs,e4,m8,d6⟩:=D.bx rfl;obtain ⟨gm,J,h5,AO⟩:=D.mm rfl;have b0:=(D.mv rfl).trans J;have e2:=e1.trans e4;rw [b0] at d6;have I:Hid (WO w W m (ch++[n]) vs f u (.slice At m.tasks.length ct) gs gm (v 11) (v 16) [n]):=⟨D.ext,m8,h5,d6,D.ap rfl,D.c2 rfl,by simpa using AO⟩;generalize v 11=v1 at*;generalize v 16=v2 at*;rw [e2,e4];clear D d6 AO b0 J e4 e1 e2;have q5:=run_range_map (P:=Tryz.prog) W 205 3 4 gu _ us.length Tryz.underlying205 ((HS.out.ext hW).us);have j2:Hid (RW w (W.alloc (.mapIter (some gu) us.length #[] us.length)) m (ch++[n]) vs f u (.slice At m.tasks.length ct) gs gm v1 v2 [n] W.heap.size gu us n #[] us.length):=⟨I.out.keep ((za.refl W).alloc _),EE _ _,hW.size,DR _,((HS.out.ext hW).us).below ((za.refl W).alloc _),fun x=>by simp⟩;have m9:gu<w.heap.size:=zc HS.out.us;have q4:=r8 W hW
  go_wp2_with fail
  generalize W.heap.size=r at*
  go_loopg [6] (leftN us.length #[]) (fun gk s6 wr=>∃us2 seen c0,gk=leftN us.length seen/\Hid (RW w wr m (ch++[n]) vs f u (.slice At m.tasks.length ct) gs gm v1 v2 us2 r gu us n seen c0))
  case atStart=>exact ⟨[n],#[],us.length,rfl,j2⟩
  clear j2
  case round=>
   obtain ⟨us2,seen,c0,rfl,hR⟩:=hrel;rcases set_next (P:=Tryz.prog) hR.out.old hR.out.it hR.out.hc with ⟨f6,i1⟩ | ⟨i,hi,n1,w1,g7,i1,m7⟩
   ·have d7:Hid (∀x,x∈us2↔x=n\/x∈us):=fun x=>by rw [hR.out.mem];exact mem_all f6
    have I:=zh hR.out.wo;have a3:=zh (WO.st HS.out f9.out hR.out.wo a0.out);have b4:=hR.out.wo.ext
    go_wp2_with fail
    clear hR f6 i1;obtain ⟨wk,rfl⟩:∃wk:World,wk=wr:=⟨_,rfl⟩;refine (CO _ a3.out (by omega)).mono ?_;rintro e wt ⟨U,e6⟩;have e6:za wk wt:=e6 ▸ za.refl _;obtain ⟨k,hk⟩:∃k,ps.length=k+1:=⟨ps.length - 1,by omega⟩;have k3:(ps.length:Int) - 1=(k:Int):=by omega
    rw [k3] at U;subst U;have I:=zh (I.out.keep e6);have b4:=I.out.ext;clear a3 e6 k3;have h9:k<ps.length:=by omega
    obtain ⟨up,k6,h7⟩:=f9.out k _ (DO h9);obtain ⟨p,f0⟩:=EY (ps[k]);rw [<-f0] at h7;have p9:p.length<=1000:=by rw [f0];exact SO.out.pp _ (DS h9)
    have l7:=zh f0;clear f0;have l8:=zh h7;clear h7;have l2:vs.length=k+1:=by have:=a0.out;omega
    obtain ⟨b2,cp2,n7,g8,a4⟩:=World.ownsRow.form I.out.ps (by omega);subst n7;have j6:wt.cell? ⟨b2,k,none⟩=some up:=by rw [World.ownsRow.cellAt I.out.ps k (by omega)];exact k6
    have hfz:wt.frozen? ⟨b2,k,none⟩=false:=World.ownsRow.frozenAt I.out.ps k;have rup:=za.rule j6;have a7:wt.cell? ⟨gs,7,none⟩=some (.slice (some ⟨b2,0,none⟩) vs.length cp2):=I.out.blk.cell rfl;have e8:gs<wt.heap.size:=zc I.out.blk;have j8:gs≠b2:=fun e=>Cl I.out.blk I.out.ps (by decide) (by rw [e];rfl)
    have l9:=zh l2;have o5:(k:Int)<(vs.length:Int):=by omega
    have o4:(0:Int)<=(k:Int):=by omega
    have o2:=own_capL I.out.ps;clear j6 k6 hk l2
    go_wp2_with fail
    refine Eh (S:=(fun W=>za w W/\W.cell? ⟨gs,7,none⟩=some (.slice (some ⟨b2,0,none⟩) vs.length cp2))) (by kernel_rfl) (⟨b4.drew,a7⟩) fun zH=>?_;refine zg 0 zH ?_;refine zg 1 zH ?_;simp only [zb,DN];refine zg 2 zH ?_;refine zg 3 zH ?_;simp only [zb,DN];refine zg 4 zH ?_;refine zg 5 zH ?_;simp only [zb,DN];refine zg 6 zH ?_;refine zg 7 zH ?_;simp only [zb,DN];refine zg 8 zH ?_;refine zg 9 zH ?_;simp only [zb,DN];refine zg 10 zH ?_;refine zg 13 zH ?_;simp only [zb,DN];refine BD [11,12,14,15,16,17] (fun e v W=>J7 wt b2 k p n up e v W) (F:=?F16) (by kernel_rfl) (by kernel_rfl) (by decide) zH (fun v=>?hF16) ?init16 (by kernel_rfl) ?steps16 ?fin16
    case hF16=>(simp only [zX,Cj,List.getElem?_toArray,List.getElem?_cons_succ,List.getElem?_cons_zero,Option.bind,Act.put,List.setIfInBounds_toArray,List.set_cons_succ,List.set_cons_zero];rfl)
    case init16=>
     intro e v he;exact J7.init he
    case steps16=>
     refine zn.cons rfl (fun e v W K D hW he G E=>?_) ?_
     ·simp only [zb] at G E⊢;have hE:=D.ext (D.n17 (D.n15 (D.n12 he)));have m5:=rup W hE;go_simp;exact E.out _ up _ (by rfl) hW (D.s11)
     refine zn.cons rfl (fun e v W K D hW he G E=>?_) ?_
     ·simp only [zb] at G E⊢;have b7:e 11=true:=zw G [11] (by kernel_rfl) 11 (by simp);have Q:=D.n15 he;have M:=D.n17 Q;have hE:=D.ext M;have d9:=D.l b7;go_simp;go_at_call 92;refine (cloneI_calls _ (l8.out.below (b4.trans hE)) (by omega)).mono ?_;rintro e9 w9 ⟨v9,rfl,hM⟩;exact E.out _ v9 _ (by simp [Act.put,d9]) ⟨hW.1.trans hM.ext,hM.ext.cell hW.2⟩ (D.s12 M Q b7 hM.ext (hM.own.mono hE.size))
     refine zn.cons rfl (fun e v W K D hW he G E=>?_) ?_
     ·simp only [zb] at G E⊢;have Q:=D.n15' he;have M:=D.n17 Q;go_simp;exact E.out _ _ _ (by rfl) ⟨hW.1.alloc _,((za.refl W).alloc _).cell hW.2⟩ (D.s14 M Q ((za.refl W).alloc _) (zC _ _ _ rfl))
     refine zn.cons rfl (fun e v W K D hW he G E=>?_) ?_
     ·simp only [zb] at G E⊢;have g3:e 12=true:=zw G [12] (by kernel_rfl) 12 (by simp);have i8:e 14=true:=zw G [14] (by kernel_rfl) 14 (by simp);have M:=D.n17 he;obtain ⟨gb,k8,j5⟩:=D.b i8 he;have hE:=D.ext M;rw [if_pos (by rfl)];refine Ci (ok:=fun _=>True) W _ _ (by rfl) wt.heap.size p [n] (v 12) (v 14) (by rfl) (by rfl) (D.c g3 he) (by rw [k8];exact CM j5) hE.size (by simp;omega) ?_;intro v9 w9 ho hg _;have a2:za wt w9:=zS hE hg hE.size (fun k hk=>Ao (D.c g3 he) hk);exact E.out _ v9 _ (by rfl) ⟨b4.trans a2,a2.cell a7⟩ (D.s15 M g3 i8 a2 ho)
     refine zn.cons rfl (fun e v W K D hW he G E=>?_) ?_
     ·simp only [zb] at G E⊢;go_simp;exact E.out _ _ _ (by rfl) hW D.s16
     refine zn.cons rfl (fun e v W K D hW he G E=>?_) ?_
     ·simp only [zb] at G E⊢;have Q:e 15=true:=zw G [15] (by kernel_rfl) 15 (by simp);have b8:e 16=true:=zw G [16] (by kernel_rfl) 16 (by simp);have hE:=D.ext he;have j0:=D.ap Q he;obtain ⟨A9,c9,e0,_⟩:=AA j0;rw [show (p++[n]).length=p.length+1 from by simp] at e0;have e3:=D.ix b8;have m5:=rup W hE;have p7:W.frozen? ⟨b2,k,none⟩=false:=(hE.frozen (p:=⟨b2,k,none⟩) a4).trans hfz;have HJ:=zh (D.s17 (x:=undef) he Q b8 rfl);have HE:=zh (show za w (W.setCell ⟨b2,k,none⟩ (v 15))/\(W.setCell ⟨b2,k,none⟩ (v 15)).cell? ⟨gs,7,none⟩=some (.slice (some ⟨b2,0,none⟩) vs.length cp2) from ⟨(b4.trans hE).setCell g8 _,(Eg (w:=W) (Ea W _ _ gs (fun e=>j8 e))).trans hW.2⟩);rw [e0] at HJ HE;go_simp;exact E.out _ undef _ (by simp [Act.put,e0,e3]) HE.out HJ.out
     exact zn.nil
    case fin16=>
     intro v W D hW;obtain ⟨W9,a2,j1,g6⟩:=D.st rfl;generalize v 15=x15 at*;have d4:=zh ((I.out.keep a2).store (k:=k) (x:=x15) g8);have b9:Hid (∀(i:Nat) (x:List Int),(ps.set k (p++[n]))[i]?=some x->∃u,(vs.set k x15)[i]?=some u/\zk W (fun b=>(ok b/\b<w.heap.size)\/wt.heap.size<=b) u x):=by rw [g6];exact paths_set f9.out a0.out I.out a2 g8 a4 (by omega) (Ae.of_own j1)
     rw [<-g6] at d4;clear D j1 g6 I a7 rup a2;have I:=d4;clear d4;have d5:BQ ps n=ps.set k (p++[n]):=by unfold BQ;rw [show ps.length - 1=k from by have:=a0.out;have:=l9.out;omega,l7.out];simp [h9]
     rw [<-d5] at b9;have o0:=zh d5;clear d5;have e5:Hid ((vs.set k x15).length=(BQ ps n).length):=by have:=a0.out;show _=_;unfold BQ;simp;omega
     have l3:Hid ((vs.set k x15).length=vs.length):=by show _=_;simp
     have g7:Hid ((BQ ps n).length=ps.length):=by show _=_;unfold BQ;simp
     generalize vs.set k x15=vs1 at*;have f7:Hid (∀b,((ok b/\b<w.heap.size)\/wt.heap.size<=b)->ok b\/w.heap.size<=b):=fun b hb=>by rcases hb with h | h;exact .inl h.1;exact .inr (DT b4.size h)
     have a3:=zh (WO.st2 HS.out.maze I.out e5.out b9.out f7.out);have i4:=I.out.ext;have l1:Hid (b2<wt.heap.size):=a4;have h6:Hid (gs<wt.heap.size):=e8;have f5:0<(BQ ps n).length:=by have:=g7.out;omega
     have a7:W.cell? ⟨gs,7,none⟩=some (.slice (some ⟨b2,0,none⟩) vs.length cp2):=I.out.blk.cell rfl;have o3:=r5 W i4;obtain ⟨b,hb⟩:=EY (finB m (BQ ps n));have HB:=zh hb;clear hb;have j7:∀q:Nat,Calls Tryz.prog 204 #[.pointer (some ⟨gs,0,none⟩)] (W.drewN q) fun e w'=>e=.returned (.bool b)/\zZ (W.drewN q) w':=fun q=>by rw [HB.out];exact Dz _ (a3.out.ext ((za.refl W).drewN q)) SO1.out f5
     have g0:=zh j7;clear j7;clear f5
     cases b with
     | false=>
      have V:Bv m ps n=BQ ps n:=by unfold Bv;rw [if_neg (fun h=>by rw [<-HB.out] at h;cases h.1)]
      have b6:=zh V;clear V
      go_wp2_with fail
      go_quiet ((go_at_call 204;refine (g0.out _).mono ?_;rintro e w9 ⟨U,nd,rfl⟩;exact ⟨U,⟨_,World.drewN_drewN _ _ _⟩⟩))
      go_wp2_with fail
      go_ret;exact ⟨_,rfl,i4.drewN _,us2,d7.out,gs,_,_,_,_,_,gm,rfl,by rw [b6.out];exact a3.out.ext ((za.refl W).drewN _)⟩
     | true=>
      by_cases i0:vs.length<m.tasks.length
      ·have V:Bv m ps n=BQ ps n++[[]]:=by unfold Bv;rw [if_pos ⟨HB.out.symm,by have:=a0.out;omega⟩]
       have b6:=zh V;clear V;have G:decide ((vs.length:Int)<(m.tasks.length:Int))=true:=DU (by omega)
       go_wp2_with fail
       go_quiet ((go_at_call 204;refine (g0.out _).mono ?_;rintro e w9 ⟨U,nd,rfl⟩;exact ⟨U,⟨_,World.drewN_drewN _ _ _⟩⟩))
       generalize j3:W.drewN nq=W4;have g5:za W W4:=by rw [<-j3];exact (za.refl W).drewN _
       clear j3;have a6:=zh (I.out.keep g5);have L:=zh (a6.out.keep ((za.refl W4).alloc (.cells #[.slice none 0 0] 23)));have q8:=a6.out.ext;have o9:W4.cell? ⟨gs,7,none⟩=some (.slice (some ⟨b2,0,none⟩) vs.length cp2):=a6.out.blk.cell rfl;have n9:w.heap.size<=(W4.alloc (.cells #[.slice none 0 0] 23)).heap.size:=L.out.ext.size;have q7:vs1.length<=6:=by have:=l3.out;omega
       go_wp2_with (at_builtin;refine AY (ok:=fun _=>True) rfl _ _ _ rfl w.heap.size vs1 [.slice none 0 0] _ _ rfl rfl L.out.ps (row_nil1 (g:=W4.heap.size) (zC _ _ _ rfl) trivial) (by simp [Value.oneCell']) n9 (by simp;omega) ?_)
       intro v' w6 i2 e7 _;have c8:=zh (L.out.app i2 e7.out);have g9:zd w6 gs 207 _:=(e7.out.block gs (zc L.out.blk) (fun e=>Cl L.out.blk L.out.ps (by decide) e.symm)).trans L.out.blk;have p3:=g9.cell (k:=7) rfl;have p6:=g9.frozen 7
       have c7:Hid (zK (fun b=>(ok b/\b<w.heap.size)\/wt.heap.size<=b) W (w6.setCell ⟨gs,7,none⟩ v')):=fun b hb i0=>by
        have k5:b≠gs/\b≠b2:=by
         have h1:=I.out.hs;have h2:=h6.out;have h3:=l1.out;rcases hb with h | h <;> omega
        rw [Ea w6 ⟨gs,7,none⟩ v' b k5.1,e7.out.block b (Et i0 (g5.trans ((za.refl W4).alloc _)).size) (fun e=>k5.2 (by have e':some b=some b2:=e;injection e'))];exact (g5.trans ((za.refl W4).alloc (.cells #[.slice none 0 0] 23))).block b i0
       have f2:=zh (paths_app b9.out e5.out c7.out);have f4:=zh (WO.st2 HS.out.maze c8.out (by have:=e5.out;simp;omega) f2.out f7.out);obtain ⟨A6,c6,l0,_⟩:=Ae.of_own i2;subst l0;have k4:(vs1++[Value.slice none 0 0]).length=vs1.length+1:=by simp
       rw [k4] at c8 f4;clear k4;clear i2 e7 g9 c7 f2 L a6 a3
       go_wp2_with fail
       go_ret;exact ⟨_,rfl,c8.out.ext,us2,d7.out,gs,_,_,_,_,_,gm,rfl,by rw [b6.out];exact f4.out⟩
      ·have V:Bv m ps n=BQ ps n:=by unfold Bv;rw [if_neg (fun h=>by have:=h.2;have:=a0.out;omega)]
       have b6:=zh V;clear V;have G:decide ((vs.length:Int)<(m.tasks.length:Int))=false:=DV (by omega)
       go_wp2_with fail
       go_quiet ((go_at_call 204;refine (g0.out _).mono ?_;rintro e w9 ⟨U,nd,rfl⟩;exact ⟨U,⟨_,World.drewN_drewN _ _ _⟩⟩))
       go_wp2_with fail
       go_ret;exact ⟨_,rfl,i4.drewN _,us2,d7.out,gs,_,_,_,_,_,gm,rfl,by rw [b6.out];exact a3.out.ext ((za.refl W).drewN _)⟩
   ·obtain ⟨O,a8,a5⟩:=hR.out.step (i:=i) m9 g7;generalize setBlock w1 r (.mapIter (some gu) us.length (seen.push i) us.length)=W2 at*;have n8:=O.ext;have m6:W2.cell? ⟨gs,8,none⟩=some (.map (some gm)):=O.blk.cell rfl
    go_wp2_with (at_mapUpdate;refine wpSetAdd rfl _ _ _ _ rfl Tryz.underlying205 gm us2 us[i] rfl rfl rfl O.set ?_)
    intro w9 d8 b3;have m4:Hid (RW w w9 m (ch++[n]) vs f u (.slice At m.tasks.length ct) gs gm v1 v2 (ins us2 us[i]) r gu us n (seen.push i) us.length):=⟨O.add d8 b3,(b3.block r (zc a8) (fun e=>by injection e with e;exact iter_ne a8 O.set (fun _ _ _ _ h=>by cases h) e.symm)).trans a8,hR.out.hr,DR _,(b3.block gu (zc a5) (fun e=>by injection e with e;have:=O.hm;omega)).trans a5,fun x=>by rw [mem_ins,hR.out.mem];exact mem_step hi⟩;clear d8 b3 O a8 a5 n8 m6 hR i1 m7
    go_wp2_with fail
    go_roundg (leftN us.length (seen.push i))
    case measure=>exact leftN_step hi n1
    case rel=>exact ⟨_,_,_,rfl,m4⟩
end
end Go.Proofs.YtjomnbdjajjgfaaGreatDoor
