/- RtU -/
import Derived.Test.YthbjngbhbbkkgaaGreatHUa
import Derived.Test.YthbjngbhbbkkgaaGreatHUb
import Derived.Test.YthbjngbhbbkkgaaGreatHUc
import Derived.Test.YthbjngbhbbkkgaaGreatHUd
import Derived.Test.YthbjngbhbbkkgaaGreatHUe
import Derived.Deep.LoopGhost
import Derived.Deep.DeepCutAuto
set_option linter.unusedVariables false
set_option linter.unusedSimpArgs false
set_option maxRecDepth 100000
set_option maxHeartbeats 16000000
namespace Go.Proofs.YthbjngbhbbkkgaaGreat
open Go.RowKit
open Go.ChangeMaps (setBlock)
attribute [local go_sem ↓] Go.wp_at_zero Go.wp_at_succ
theorem zk {md:Region.Mode} {es:Array Edge} {e:Nat→Bool} (hd:∀d∈es,Region.binds md d=true→e d.on=true) (ks:List Nat) (h:(ks.all fun k=>es.toList.any fun d=>Region.binds md d && decide (d.on=k))=true):∀k∈ks,e k=true:=by
 intro k hk;obtain ⟨d,hdm,hdk⟩:=List.any_eq_true.1 (List.all_eq_true.1 h k hk);simp only [Bool.and_eq_true,decide_eq_true_eq] at hdk;rw [←hdk.2];exact hd d (by simpa using hdm) hdk.1
section
variable {W W':World} {B:Nat}
theorem zy.ext {v:Value} {l:List Int} (h:zy W B v l) (hb:Ext W W'):zy W' B v l:=h.kept (row:=none) ⟨hb.os,hb.tape,hb.output,hb.size,fun i hi _=>hb.block i hi⟩ (by cases h:v.ownBlock <;> simp)
theorem zbj.ext {v:Value} {vs:List Value} (h:zbj W B v vs) (hb:Ext W W'):zbj W' B v vs:=World.ownsRow.kept h (row:=none) ⟨hb.os,hb.tape,hb.output,hb.size,fun i hi _=>hb.block i hi⟩ (by cases h:v.ownBlock <;> simp)
theorem own_ne {e e':TypeId} {v v':Value} {n n':Nat} {xs xs':List Value} {B':Nat} (h:W.ownsRow B e 1 v n xs) (h':W.ownsRow B' e' 1 v' n' xs') (hne:e≠e'):v.ownBlock=none∨v.ownBlock≠v'.ownBlock:=by
 rcases h.2 with ⟨rfl,_⟩ | ⟨g,cap,cur,rfl,_,hg,_⟩
 ·exact .inl rfl
 ·refine .inr fun e=>?_
  rcases h'.2 with ⟨rfl,_⟩ | ⟨g',cap',cur',rfl,_,hg',_⟩
  ·cases e
  ·have e:some g=some g':=e;injection e with e;subst e;rw [hg] at hg';injection hg' with hg';injection hg' with _ ht;exact hne ht
theorem zbb {e:TypeId} {v:Value} {n:Nat} {xs:List Value} {g:Nat} {l:List Int} (h:W.ownsRow B e 1 v n xs) (hs:zA W g l):v.ownBlock=none∨v.ownBlock≠some g:=by
 rcases h.2 with ⟨rfl,_⟩ | ⟨g',cap,cur,rfl,_,hg,_⟩
 ·exact .inl rfl
 ·refine .inr fun e=>?_
  have e:some g'=some g:=e;injection e with e;subst e;unfold zA at hs;rw [hg] at hs;injection hs with hs;cases hs
end
theorem zcp {W:World} {g:Nat} {x:Int} (h:W.cell? ⟨g,0,none⟩=some (.int .i64 x)):zf W (fun _=>True) (.slice (some ⟨g,0,none⟩) 1 1) [x]:=
 ⟨some ⟨g,0,none⟩,1,rfl,Nat.le_refl _,rfl,fun _=>⟨g,0,rfl,trivial,fun j u hu=>by
  match j,hu with
  | 0,hu=>
   have:u=.int .i64 x:=by simpa using hu.symm
   subst this;exact h⟩⟩
structure JW (w:World) (ch:List Int) (n:Int) (vsp:List Value) (m:MZ) (f u t:Value) (e:Nat→Bool) (v:Nat→Value) (W:World):Prop where
 ext:Ext w W
 c1:e 8=true→e 11=false→zy W w.heap.size (v 8) ch
 b:e 10=true→e 11=false→∃g,v 10=.slice (some ⟨g,0,none⟩) 1 1∧W.cell? ⟨g,0,none⟩=some (.int .i64 n)
 ap:e 11=true→zy W w.heap.size (v 11) (ch++[n])
 c2:e 16=true→zbj W w.heap.size (v 16) vsp
 mm:e 17=true→∃gu,v 17=.map (some gu)∧w.heap.size≤gu∧zA W gu (if e 19 then [n] else [])
 mv:e 20=true→v 20=v 17
 bd:e 21=true→v 21=.agg #[.int .i64 m.w,.int .i64 m.h,.int .i64 m.l,f,u,t,v 11,v 16,v 20]
 bx:e 22=true→∃gs,v 22=.pointer (some ⟨gs,0,none⟩)∧w.heap.size≤gs∧Blk W gs 100 #[.int .i64 m.w,.int .i64 m.h,.int .i64 m.l,f,u,t,v 11,v 16,v 20]
 fin:e 23=true→v 23=v 22
 d11:e 11=true→e 8=true
 d19:e 19=true→e 17=true
 d20:e 20=true→e 19=true
 d21:e 21=true→e 11=true∧e 16=true∧e 20=true
 d22:e 22=true→e 21=true
 d23:e 23=true→e 22=true
theorem ff {b:Bool} {C:Prop} (h:b=false) (a:b=true):C:=by rw [h] at a;cases a
section
variable {w W W':World} {ch:List Int} {n:Int} {vsp:List Value} {m:MZ} {f u t:Value} {e:Nat→Bool} {v:Nat→Value}
theorem JW.keep (h:JW w ch n vsp m f u t e v W) (hE:Ext W W'):JW w ch n vsp m f u t e v W':=
 ⟨h.ext.trans hE,fun a b=>(h.c1 a b).ext hE,fun a b=>by obtain ⟨g,h1,h2⟩:=h.b a b;exact ⟨g,h1,hE.cell h2⟩,fun a=>(h.ap a).ext hE,fun a=>(h.c2 a).ext hE,
  fun a=>by obtain ⟨g,h1,h2,h3⟩:=h.mm a;exact ⟨g,h1,h2,h3.below hE⟩,h.mv,h.bd,fun a=>by obtain ⟨g,h1,h2,h3⟩:=h.bx a;exact ⟨g,h1,h2,h3.ext hE⟩,h.fin,h.d11,h.d19,h.d20,h.d21,h.d22,h.d23⟩
theorem JW.s8 {x:Value} (h:JW w ch n vsp m f u t e v W) (h11:e 11=false) (hx:zy W w.heap.size x ch):JW w ch n vsp m f u t (upd e 8 true) (upd v 8 x) W:=by
 exact ⟨h.ext,fun _ _=>hx,h.b,h.ap,h.c2,h.mm,h.mv,h.bd,h.bx,h.fin,fun _=>rfl,h.d19,h.d20,h.d21,h.d22,h.d23⟩
theorem JW.s10 {g:Nat} (h:JW w ch n vsp m f u t e v W) (hx:W.cell? ⟨g,0,none⟩=some (.int .i64 n)):JW w ch n vsp m f u t (upd e 10 true) (upd v 10 (.slice (some ⟨g,0,none⟩) 1 1)) W:=by
 exact ⟨h.ext,h.c1,fun _ _=>⟨g,rfl,hx⟩,h.ap,h.c2,h.mm,h.mv,h.bd,h.bx,h.fin,h.d11,h.d19,h.d20,h.d21,h.d22,h.d23⟩
theorem JW.s11 {x:Value} (h:JW w ch n vsp m f u t e v W) (h8:e 8=true) (h11:e 11=false) (h21:e 21=false) (h22:e 22=false) (hx:zy W' w.heap.size x (ch++[n])) (hg:Hid (W.grownBy W' (v 8).ownBlock)):JW w ch n vsp m f u t (upd e 11 true) (upd v 11 x) W':=by
 have ho:=h.c1 h8 h11;refine ⟨?_,?_,?_,?_,?_,?_,?_,?_,?_,?_,fun _=>h8,h.d19,h.d20,fun a=>⟨rfl,(h.d21 a).2⟩,h.d22,h.d23⟩
 ·exact zT h.ext hg h.ext.size (fun k hk=>za8 ho hk)
 ·exact fun _ h=>by cases h
 ·exact fun _ h=>by cases h
 ·exact fun _=>hx
 ·exact fun a=>World.ownsRow.kept (h.c2 a) hg.out (own_ne (h.c2 a) ho (by decide))
 ·intro a;obtain ⟨gu,h1,h2,h3⟩:=h.mm a;refine ⟨gu,h1,h2,(hg.out.block gu (zb h3) (fun e=>?_)).trans h3⟩;rcases zbb ho h3 with h4 | h4
  ·rw [h4] at e;cases e
  ·exact h4 e.symm
 ·exact h.mv
 ·exact fun a=>ff h21 a
 ·exact fun a=>ff h22 a
 ·exact h.fin
theorem JW.s16 {x:Value} (h:JW w ch n vsp m f u t e v W) (h21:e 21=false) (h22:e 22=false) (hx:zbj W w.heap.size x vsp):JW w ch n vsp m f u t (upd e 16 true) (upd v 16 x) W:=by
 exact ⟨h.ext,h.c1,h.b,h.ap,fun _=>hx,h.mm,h.mv,fun a=>ff h21 a,fun a=>ff h22 a,h.fin,h.d11,h.d19,h.d20,fun a=>⟨(h.d21 a).1,rfl,(h.d21 a).2.2⟩,h.d22,h.d23⟩
theorem JW.s17 {g:Nat} (h:JW w ch n vsp m f u t e v W) (h19:e 19=false) (h20:e 20=false) (hg:w.heap.size≤g) (hx:zA W g []):JW w ch n vsp m f u t (upd e 17 true) (upd v 17 (.map (some g))) W:=by
 exact ⟨h.ext,h.c1,h.b,h.ap,h.c2,fun _=>⟨g,rfl,hg,by show zA _ _ (if e 19=true then [n] else []);rw [h19];exact hx⟩,fun a=>ff h20 a,h.bd,h.bx,h.fin,h.d11,fun _=>rfl,h.d20,h.d21,h.d22,h.d23⟩
theorem JW.s19 {gu:Nat} {x:Value} (h:JW w ch n vsp m f u t e v W) (h17:e 17=true) (hv:v 17=.map (some gu)) (hu:zA W gu []) (h22:e 22=false) (hx:zA W' gu [n]) (hg:W.grownBy W' (some gu)) (hgu:w.heap.size≤gu):JW w ch n vsp m f u t (upd e 19 true) (upd v 19 x) W':=by
 refine ⟨?_,?_,?_,?_,?_,?_,?_,?_,?_,?_,h.d11,fun _=>h17,fun _=>rfl,h.d21,h.d22,h.d23⟩
 ·exact za4 h.ext hg h.ext.size hgu
 ·exact fun a b=>World.ownsRow.kept (h.c1 a b) hg (zbb (h.c1 a b) hu)
 ·intro a b;obtain ⟨g,h1,h2⟩:=h.b a b;refine ⟨g,h1,(World.grownBy.cell hg h2 (fun e=>?_))⟩;injection e with e;have:g=gu:=e;subst this;unfold zA at hu;unfold World.cell? at h2;simp [hu,mapObj] at h2
 ·exact fun a=>World.ownsRow.kept (h.ap a) hg (zbb (h.ap a) hu)
 ·exact fun a=>World.ownsRow.kept (h.c2 a) hg (zbb (h.c2 a) hu)
 ·exact fun _=>⟨gu,hv,hgu,hx⟩
 ·exact h.mv
 ·exact h.bd
 ·exact fun a=>ff h22 a
 ·exact h.fin
theorem JW.s20 (h:JW w ch n vsp m f u t e v W) (h19:e 19=true) (h21:e 21=false) (h22:e 22=false):JW w ch n vsp m f u t (upd e 20 true) (upd v 20 (v 17)) W:=by
 exact ⟨h.ext,h.c1,h.b,h.ap,h.c2,h.mm,fun _=>rfl,fun a=>ff h21 a,fun a=>ff h22 a,h.fin,h.d11,h.d19,fun _=>h19,fun a=>⟨(h.d21 a).1,(h.d21 a).2.1,rfl⟩,h.d22,h.d23⟩
theorem JW.s21 {x:Value} (h:JW w ch n vsp m f u t e v W) (hd21:e 11=true∧e 16=true∧e 20=true) (hx:x=.agg #[.int .i64 m.w,.int .i64 m.h,.int .i64 m.l,f,u,t,v 11,v 16,v 20]):JW w ch n vsp m f u t (upd e 21 true) (upd v 21 x) W:=by
 exact ⟨h.ext,h.c1,h.b,h.ap,h.c2,h.mm,h.mv,fun _=>hx,h.bx,h.fin,h.d11,h.d19,h.d20,fun _=>hd21,fun _=>rfl,h.d23⟩
theorem JW.s22 {gs:Nat} (h:JW w ch n vsp m f u t e v W) (h21:e 21=true) (h23:e 23=false) (hg:w.heap.size≤gs) (hb:Blk W gs 100 #[.int .i64 m.w,.int .i64 m.h,.int .i64 m.l,f,u,t,v 11,v 16,v 20]):JW w ch n vsp m f u t (upd e 22 true) (upd v 22 (.pointer (some ⟨gs,0,none⟩))) W:=by
 exact ⟨h.ext,h.c1,h.b,h.ap,h.c2,h.mm,h.mv,h.bd,fun _=>⟨gs,rfl,hg,hb⟩,fun a=>ff h23 a,h.d11,h.d19,h.d20,h.d21,fun _=>h21,fun _=>rfl⟩
theorem JW.s23 (h:JW w ch n vsp m f u t e v W) (h22:e 22=true):JW w ch n vsp m f u t (upd e 23 true) (upd v 23 (v 22)) W:=by
 exact ⟨h.ext,h.c1,h.b,h.ap,h.c2,h.mm,h.mv,h.bd,h.bx,fun _=>rfl,h.d11,h.d19,h.d20,h.d21,h.d22,fun _=>h22⟩
theorem JW.init {w:World} {ch:List Int} {n:Int} {vsp:List Value} {m:MZ} {f u t:Value} {e:Nat→Bool} {v:Nat→Value} (he:∀j∈[8,10,11,16,17,19,20,21,22,23],e j=false):JW w ch n vsp m f u t e v w.drew:=
 ⟨zco,fun a=>ff (he 8 (by simp)) a,fun a=>ff (he 10 (by simp)) a,fun a=>ff (he 11 (by simp)) a,fun a=>ff (he 16 (by simp)) a,fun a=>ff (he 17 (by simp)) a,fun a=>ff (he 20 (by simp)) a,fun a=>ff (he 21 (by simp)) a,
  fun a=>ff (he 22 (by simp)) a,fun a=>ff (he 23 (by simp)) a,fun a=>ff (he 11 (by simp)) a,fun a=>ff (he 19 (by simp)) a,fun a=>ff (he 20 (by simp)) a,fun a=>ff (he 21 (by simp)) a,fun a=>ff (he 22 (by simp)) a,fun a=>ff (he 23 (by simp)) a⟩
theorem notT {b c:Bool} (h:b=true→c=true) (hc:c=false):b=false:=by
 cases b with
 | false=>rfl
 | true=>exact absurd (h rfl) (by rw [hc];simp)
theorem JW.n11 (h:JW w ch n vsp m f u t e v W) (h8:e 8=false):e 11=false:=notT h.d11 h8
theorem JW.n21 (h:JW w ch n vsp m f u t e v W) (h11:e 11=false):e 21=false:=notT (fun a=>(h.d21 a).1) h11
theorem JW.n21' (h:JW w ch n vsp m f u t e v W) (h11:e 16=false):e 21=false:=notT (fun a=>(h.d21 a).2.1) h11
theorem JW.n21'' (h:JW w ch n vsp m f u t e v W) (h11:e 20=false):e 21=false:=notT (fun a=>(h.d21 a).2.2) h11
theorem JW.n22 (h:JW w ch n vsp m f u t e v W) (h11:e 21=false):e 22=false:=notT h.d22 h11
theorem JW.n23 (h:JW w ch n vsp m f u t e v W) (h11:e 22=false):e 23=false:=notT h.d23 h11
theorem JW.n20 (h:JW w ch n vsp m f u t e v W) (h11:e 19=false):e 20=false:=notT h.d20 h11
theorem JW.n19 (h:JW w ch n vsp m f u t e v W) (h11:e 17=false):e 19=false:=notT h.d19 h11
end
structure WO (w W:World) (m:MZ) (ch:List Int) (vsp:List Value) (f u t:Value) (gs gm:Nat) (v1 v2:Value) (us:List Int):Prop where
 ext:Ext w W
 hs:w.heap.size≤gs
 hm:w.heap.size≤gm
 blk:Blk W gs 100 (stCells m f u t v1 v2 gm)
 ch:zy W w.heap.size v1 ch
 ps:zbj W w.heap.size v2 vsp
 set:zA W gm us
section
variable {w W W':World} {m:MZ} {ch us us':List Int} {vsp:List Value} {f u t v1 v2:Value} {gs gm:Nat}
theorem WO.keep (h:WO w W m ch vsp f u t gs gm v1 v2 us) (hE:Ext W W'):WO w W' m ch vsp f u t gs gm v1 v2 us:=
 ⟨h.ext.trans hE,h.hs,h.hm,h.blk.ext hE,h.ch.ext hE,h.ps.ext hE,h.set.below hE⟩
theorem blk_set_ne {W:World} {g g':Nat} {t:TypeId} {cs:Array Value} {l:List Int} (h:Blk W g t cs) (h':zA W g' l):g≠g':=by
 rintro rfl;unfold Blk at h;unfold zA mapObj at h';rw [h] at h'
 cases h'
theorem WO.add (h:WO w W m ch vsp f u t gs gm v1 v2 us) (hx:zA W' gm us') (hg:W.grownBy W' (some gm)):WO w W' m ch vsp f u t gs gm v1 v2 us':=
 ⟨za4 h.ext hg h.ext.size h.hm,h.hs,h.hm,(hg.block gs (zb h.blk) (fun e=>by injection e with e;exact blk_set_ne h.blk h.set e)).trans h.blk,
  World.ownsRow.kept h.ch hg (zbb h.ch h.set),World.ownsRow.kept h.ps hg (zbb h.ps h.set),hx⟩
theorem grown_iter {W w1:World} {r:Nat} {o:Obj} (h:w1=W∨w1=W.drew):W.grownBy (setBlock w1 r o) (some r):=by
 have h1:w1.heap=W.heap∧w1.os=W.os∧w1.tape=W.tape∧w1.output=W.output:=by rcases h with rfl | rfl <;> exact ⟨rfl,rfl,rfl,rfl⟩
 refine ⟨h1.2.1,h1.2.2.1,h1.2.2.2,by simp [setBlock,h1.1],fun k _ hk=>?_⟩;rw [zcb _ (fun e=>hk (by rw [e])),h1.1]
theorem iter_ne {W:World} {r g since c0:Nat} {seen:Array Nat} {k:Nat} {o:Obj} (h:IterIs W r g since seen c0) (hk:W.heap[k]?=some o) (ho:∀a b c d,o≠.mapIter a b c d):k≠r:=by
 rintro rfl;unfold IterIs at h;rw [hk] at h;injection h with h;exact ho _ _ _ _ h
theorem own_iter_ne {W:World} {B:Nat} {e:TypeId} {v:Value} {n:Nat} {xs:List Value} {r g since c0:Nat} {seen:Array Nat} (h:W.ownsRow B e 1 v n xs) (hi:IterIs W r g since seen c0):v.ownBlock=none∨v.ownBlock≠some r:=by
 rcases h.2 with ⟨rfl,_⟩ | ⟨g',cap,cur,rfl,_,hg,_⟩
 ·exact .inl rfl
 ·refine .inr fun e=>?_
  have e:some g'=some r:=e;injection e with e;exact iter_ne hi hg (fun _ _ _ _ h=>by cases h) e
theorem own_capL {w:World} {B g c:Nat} {vs:List Value} (h:zbj w B (.slice (some ⟨g,0,none⟩) vs.length c) vs):vs.length≤c:=zbv h
theorem WO.st {ok:Nat→Prop} {ch0 us0:List Int} {ps:List (List Int)} {g gu:Nat} {vc vp:Value} (h0:zaZ w ok g m ch0 ps us0 f u t vc vp gu) (hep:∀(i:Nat) (x:List Int),ps[i]?=some x→∃u,vsp[i]?=some u∧zf w ok u x) (h:WO w W m ch vsp f u t gs gm v1 v2 us)
  (hl:vsp.length=ps.length):zaZ W (fun b=>ok b∨w.heap.size≤b) gs m ch ps us f u t v1 v2 gm:=
 zaZ.make h.ext h0.maze (fun _ h=>.inl h) h.blk (.inr h.hs) ((Row.of_own h.ch).weaken (fun _ h=>.inr h)) ⟨vsp,by rw [←hl];exact (Row.of_own h.ps).weaken (fun _ h=>.inr h),fun i x hx=>by
  obtain ⟨u,hu,hr⟩:=hep i x hx;exact ⟨u,hu,(hr.below h.ext).weaken (fun _ h=>.inl h)⟩⟩ (.inr h.hm) h.set
theorem mem_step {us:List Int} {i:Nat} {n x:Int} {seen:Array Nat} (hi:i<us.length):((x=n∨∃j,us[j]?=some x∧seen.contains j=true)∨x=us[i])↔(x=n∨∃j,us[j]?=some x∧(seen.push i).contains j=true):=by
 have hc:∀j,(seen.push i).contains j=true↔seen.contains j=true∨j=i:=by
  intro j;simp
 constructor
 ·rintro ((h | ⟨j,h1,h2⟩) | h)
  ·exact .inl h
  ·exact .inr ⟨j,h1,(hc j).2 (.inl h2)⟩
  ·exact .inr ⟨i,by rw [List.getElem?_eq_getElem hi,h],(hc i).2 (.inr rfl)⟩
 ·rintro (h | ⟨j,h1,h2⟩)
  ·exact .inl (.inl h)
  ·rcases (hc j).1 h2 with h3 | rfl
   ·exact .inl (.inr ⟨j,h1,h3⟩)
   ·rw [List.getElem?_eq_getElem hi] at h1;injection h1 with h1;exact .inr h1.symm
theorem mem_all {us:List Int} {n x:Int} {seen:Array Nat} (h:∀i,i<us.length→seen.contains i=true):(x=n∨∃j,us[j]?=some x∧seen.contains j=true)↔(x=n∨x∈us):=by
 constructor
 ·rintro (h1 | ⟨j,h1,_⟩)
  ·exact .inl h1
  ·exact .inr (List.mem_of_getElem? h1)
 ·rintro (h1 | h1)
  ·exact .inl h1
  ·obtain ⟨j,hj,rfl⟩:=List.getElem_of_mem h1;exact .inr ⟨j,List.getElem?_eq_getElem hj,h j hj⟩
structure RW (w W:World) (m:MZ) (ch:List Int) (vsp:List Value) (f u t:Value) (gs gm:Nat) (v1 v2:Value) (us2:List Int) (r gu:Nat) (us:List Int) (n:Int) (seen:Array Nat) (c0:Nat):Prop where
 wo:WO w W m ch vsp f u t gs gm v1 v2 us2
 it:IterIs W r gu us.length seen c0
 hr:w.heap.size≤r
 hc:us.length≤c0
 old:zA W gu us
 mem:∀x,x∈us2↔x=n∨∃i,us[i]?=some x∧seen.contains i=true
theorem RW.step {w W w1:World} {m:MZ} {ch us us2:List Int} {vsp:List Value} {f u t v1 v2:Value} {gs gm r gu c0 i:Nat} {n:Int} {seen:Array Nat} (h:RW w W m ch vsp f u t gs gm v1 v2 us2 r gu us n seen c0) (hgu:gu<w.heap.size) (hal:w1=W∨w1=W.drew):
  WO w (setBlock w1 r (.mapIter (some gu) us.length (seen.push i) us.length)) m ch vsp f u t gs gm v1 v2 us2∧IterIs (setBlock w1 r (.mapIter (some gu) us.length (seen.push i) us.length)) r gu us.length (seen.push i) us.length∧zA (setBlock w1 r (.mapIter (some gu) us.length (seen.push i) us.length)) gu us:=by
 have hg:W.grownBy (setBlock w1 r (.mapIter (some gu) us.length (seen.push i) us.length)) (some r):=grown_iter hal;have h1:w1.heap=W.heap:=by rcases hal with rfl | rfl <;> rfl
 have hne:∀(k:Nat) (o:Obj),W.heap[k]?=some o→(∀a b c d,o≠.mapIter a b c d)→k≠r:=fun k o hk ho=>iter_ne h.it hk ho
 refine ⟨⟨za4 h.wo.ext hg h.wo.ext.size h.hr,h.wo.hs,h.wo.hm,?_,World.ownsRow.kept h.wo.ch hg (own_iter_ne h.wo.ch h.it),World.ownsRow.kept h.wo.ps hg (own_iter_ne h.wo.ps h.it),?_⟩,?_,?_⟩
 ·exact (hg.block gs (zb h.wo.blk) (fun e=>by injection e with e;exact hne _ _ h.wo.blk (fun _ _ _ _ h=>by cases h) e)).trans h.wo.blk
 ·exact (hg.block gm (zb h.wo.set) (fun e=>by injection e with e;exact hne _ _ h.wo.set (fun _ _ _ _ h=>by cases h) e)).trans h.wo.set
 ·exact setBlock_same _ (by rw [h1];exact zb h.it)
 ·exact (hg.block gu (zb h.old) (fun e=>by injection e with e;exact hne _ _ h.old (fun _ _ _ _ h=>by cases h) e)).trans h.old
end
theorem paths_app {W W3:World} {ok2:Nat→Prop} {vs:List Value} {ps:List (List Int)} (hep:∀(i:Nat) (x:List Int),ps[i]?=some x→∃u,vs[i]?=some u∧zf W ok2 u x) (hl:vs.length=ps.length) (hk:zX ok2 W W3):
  ∀(i:Nat) (x:List Int),(ps++[[]])[i]?=some x→∃u,(vs++[.slice none 0 0])[i]?=some u∧zf W3 ok2 u x:=by
 intro i x hi;by_cases h:i<ps.length
 ·rw [List.getElem?_append_left h] at hi;obtain ⟨u,hu,hr⟩:=hep i x hi;exact ⟨u,by rw [List.getElem?_append_left (by omega)];exact hu,hr.keep hk⟩
 ·rw [List.getElem?_append_right (by omega)] at hi
  have h0:i - ps.length=0:=by
   rcases Nat.eq_zero_or_pos (i - ps.length) with h | h
   ·exact h
   ·rw [List.getElem?_eq_none (by simp;omega)] at hi;cases hi
  rw [h0] at hi;have:x=[]:=by simpa using hi.symm
  subst this;exact ⟨_,by rw [List.getElem?_append_right (by omega),hl,h0];rfl,zf.nil _ _⟩
theorem row_nil1 {W:World} {g:Nat} {ok:Nat→Prop} (h:W.cell? ⟨g,0,none⟩=some (.slice none 0 0)) (hg:ok g):Row W ok 1 (.slice (some ⟨g,0,none⟩) 1 1) [Value.slice none 0 0].length [.slice none 0 0]:=
 ⟨some ⟨g,0,none⟩,1,rfl,Nat.le_refl _,rfl,fun _=>⟨g,0,rfl,hg,fun j u hu=>by
  match j,hu with
  | 0,hu=>
   have:u=.slice none 0 0:=by simpa using hu.symm
   subst this;exact h⟩⟩
theorem zbG {W:World} {g:Nat} {t e:TypeId} {cs:Array Value} {B:Nat} {v:Value} {n:Nat} {xs:List Value} (h:Blk W g t cs) (ho:W.ownsRow B e 1 v n xs) (hne:e≠t):v.ownBlock≠some g:=zj ho h hne
theorem WO.app {w W W2:World} {m:MZ} {ch us:List Int} {vs vs':List Value} {f u t v1 v2 v2':Value} {gs gm:Nat} (h:WO w W m ch vs f u t gs gm v1 v2 us) (ho:zbj W2 w.heap.size v2' vs') (hg:W.grownBy W2 v2.ownBlock):
  WO w (W2.setCell ⟨gs,7,none⟩ v2') m ch vs' f u t gs gm v1 v2' us:=by
 have hgs:gs<W.heap.size:=zb h.blk;have hne:some gs≠v2.ownBlock:=fun e=>zbG h.blk h.ps (by decide) e.symm
 have hb:Blk W2 gs 100 (stCells m f u t v1 v2 gm):=(hg.block gs hgs hne).trans h.blk;have hc:zy W2 w.heap.size v1 ch:=World.ownsRow.kept h.ch hg (own_ne h.ch h.ps (by decide))
 have hs:zA W2 gm us:=(hg.block gm (zb h.set) (fun e=>by
  rcases zbb h.ps h.set with h | h
  ·rw [h] at e;cases e
  ·exact h e.symm)).trans h.set
 exact ⟨(h.ext.grown hg h.ext.size (fun k hk=>(World.ownsRow.lt h.ps k hk).1)).setCell h.hs _,h.hs,h.hm,hb.set v2',ownsRow_setCell_other hc (zbG hb hc (by decide)) _,ownsRow_setCell_other ho (zbG hb ho (by decide)) _,
  (Below.heap_setCell W2 _ _ gm (fun e=>blk_set_ne hb hs e.symm)).trans hs⟩
theorem WO.st2 {w W:World} {ok ok2:Nat→Prop} {m:MZ} {ch us:List Int} {vs:List Value} {ps:List (List Int)} {f u t v1 v2:Value} {gs gm:Nat} (hm:zr w ok (.agg #[.int .i64 m.w,.int .i64 m.h,.int .i64 m.l,f,u,t]) m) (h:WO w W m ch vs f u t gs gm v1 v2 us) (hl:vs.length=ps.length)
  (hep:∀(i:Nat) (x:List Int),ps[i]?=some x→∃u,vs[i]?=some u∧zf W ok2 u x) (hok:∀b,ok2 b→ok b∨w.heap.size≤b):zaZ W (fun b=>ok b∨w.heap.size≤b) gs m ch ps us f u t v1 v2 gm:=
 zaZ.make h.ext hm (fun _ h=>.inl h) h.blk (.inr h.hs) ((Row.of_own h.ch).weaken (fun _ h=>.inr h)) ⟨vs,by rw [←hl];exact (Row.of_own h.ps).weaken (fun _ h=>.inr h),fun i x hx=>by
  obtain ⟨u,hu,hr⟩:=hep i x hx;exact ⟨u,hu,hr.weaken hok⟩⟩ (.inr h.hm) h.set
def zbx (ps:List (List Int)) (n:Int):List (List Int):=ps.set (ps.length - 1) (ps.getD (ps.length - 1) []++[n])
def zbe (m:MZ) (ps:List (List Int)) (n:Int):List (List Int):=if finB m (zbx ps n)=true∧ps.length<m.tasks.length then zbx ps n++[[]] else zbx ps n
theorem ints_setCell {W:World} {ok:Nat→Prop} {v x:Value} {l:List Int} {b k:Nat} (h:zf W ok v l) (hb:¬ ok b):zf (W.setCell ⟨b,k,none⟩ x) ok v l:=
 h.keep (fun g hg _=>Below.heap_setCell W ⟨b,k,none⟩ x g (fun e=>hb (by rw [←show g=b from e];exact hg)))
theorem paths_set {w wt W9:World} {ok:Nat→Prop} {m:MZ} {ch us:List Int} {vs:List Value} {ps:List (List Int)} {f u t v1 x15:Value} {gs gm b2 c k:Nat} {q:List Int}
  (hep:∀(i:Nat) (x:List Int),ps[i]?=some x→∃u,vs[i]?=some u∧zf w ok u x) (hl:vs.length=ps.length) (hWO:WO w wt m ch vs f u t gs gm v1 (.slice (some ⟨b2,0,none⟩) vs.length c) us) (hE:Ext wt W9) (hb2:w.heap.size≤b2) (hb2lt:b2<wt.heap.size) (hk:k<vs.length)
  (hx:zf W9 (fun b=>wt.heap.size≤b) x15 q):
  ∀(i:Nat) (x:List Int),(ps.set k q)[i]?=some x→∃u,(vs.set k x15)[i]?=some u∧zf (W9.setCell ⟨b2,k,none⟩ x15) (fun b=>(ok b∧b<w.heap.size)∨wt.heap.size≤b) u x:=by
 intro i x hi;by_cases hik:k=i
 ·subst hik;rw [List.getElem?_set_self (by omega)] at hi;injection hi with hi;subst hi;refine ⟨x15,by rw [List.getElem?_set_self hk],(ints_setCell hx (by omega)).weaken (fun b hb=>.inr hb)⟩
 ·rw [List.getElem?_set_ne hik] at hi;obtain ⟨u',hu',hr⟩:=hep i x hi;refine ⟨u',by rw [List.getElem?_set_ne hik];exact hu',?_⟩
  have hr1:zf w (fun b=>ok b∧b<w.heap.size) u' x:=by
   obtain ⟨A,c',e,hc,hl',hcell⟩:=hr;refine ⟨A,c',e,hc,hl',fun hn=>?_⟩;obtain ⟨b,off,e',hb,hcc⟩:=hcell hn
   have hlt:b<w.heap.size:=by
    have h0:0<(x.map (Value.int .i64)).length:=by simpa using hn
    exact zl (hcc 0 _ (List.getElem?_eq_getElem h0))
   exact ⟨b,off,e',⟨hb,hlt⟩,hcc⟩
  exact ((ints_setCell (hr1.below (hWO.ext.trans hE)) (by omega)).weaken (fun b hb=>.inl hb))
structure J7 (wk:World) (b2 k:Nat) (p:List Int) (n:Int) (up:Value) (e:Nat→Bool) (v:Nat→Value) (W:World):Prop where
 ext:e 17=false→Ext wk W
 l:e 11=true→v 11=up
 c:e 12=true→e 15=false→zy W wk.heap.size (v 12) p
 b:e 14=true→e 15=false→∃g,v 14=.slice (some ⟨g,0,none⟩) 1 1∧W.cell? ⟨g,0,none⟩=some (.int .i64 n)
 ap:e 15=true→e 17=false→zy W wk.heap.size (v 15) (p++[n])
 ix:e 16=true→v 16=.pointer (some ⟨b2,k,none⟩)
 st:e 17=true→∃W9,Ext wk W9∧zy W9 wk.heap.size (v 15) (p++[n])∧W=W9.setCell ⟨b2,k,none⟩ (v 15)
 d12:e 12=true→e 11=true
 d15:e 15=true→e 12=true∧e 14=true
 d17:e 17=true→e 15=true∧e 16=true
section
variable {wk W W':World} {b2 k:Nat} {p:List Int} {n:Int} {up:Value} {e:Nat→Bool} {v:Nat→Value}
theorem J7.init (he:∀j∈[11,12,14,15,16,17],e j=false):J7 wk b2 k p n up e v wk.drew:=
 ⟨fun _=>zco,fun a=>ff (he 11 (by simp)) a,fun a=>ff (he 12 (by simp)) a,fun a=>ff (he 14 (by simp)) a,fun a=>ff (he 15 (by simp)) a,fun a=>ff (he 16 (by simp)) a,fun a=>ff (he 17 (by simp)) a,fun a=>ff (he 12 (by simp)) a,fun a=>ff (he 15 (by simp)) a,fun a=>ff (he 17 (by simp)) a⟩
theorem J7.n15 (h:J7 wk b2 k p n up e v W) (h12:e 12=false):e 15=false:=notT (fun a=>(h.d15 a).1) h12
theorem J7.n15' (h:J7 wk b2 k p n up e v W) (h12:e 14=false):e 15=false:=notT (fun a=>(h.d15 a).2) h12
theorem J7.n12 (h:J7 wk b2 k p n up e v W) (h12:e 11=false):e 12=false:=notT h.d12 h12
theorem J7.n17 (h:J7 wk b2 k p n up e v W) (h12:e 15=false):e 17=false:=notT (fun a=>(h.d17 a).1) h12
theorem J7.s11 (h:J7 wk b2 k p n up e v W):J7 wk b2 k p n up (upd e 11 true) (upd v 11 up) W:=
 ⟨h.ext,fun _=>rfl,h.c,h.b,h.ap,h.ix,h.st,fun _=>rfl,h.d15,h.d17⟩
theorem J7.s12 {x:Value} (h:J7 wk b2 k p n up e v W) (h17:e 17=false) (h15:e 15=false) (h11:e 11=true) (hE:Ext W W') (hx:zy W' wk.heap.size x p):J7 wk b2 k p n up (upd e 12 true) (upd v 12 x) W':=
 ⟨fun a=>(h.ext a).trans hE,h.l,fun _ _=>hx,fun a b=>(by obtain ⟨g,h1,h2⟩:=h.b a b;exact ⟨g,h1,hE.cell h2⟩),fun a=>ff h15 a,h.ix,fun a=>ff h17 a,fun _=>h11,fun a=>ff h15 a,h.d17⟩
theorem J7.s14 {g:Nat} (h:J7 wk b2 k p n up e v W) (h17:e 17=false) (h15:e 15=false) (hE:Ext W W') (hx:W'.cell? ⟨g,0,none⟩=some (.int .i64 n)):J7 wk b2 k p n up (upd e 14 true) (upd v 14 (.slice (some ⟨g,0,none⟩) 1 1)) W':=
 ⟨fun a=>(h.ext a).trans hE,h.l,fun a b=>(h.c a b).ext hE,fun _ _=>⟨g,rfl,hx⟩,fun a=>ff h15 a,h.ix,fun a=>ff h17 a,h.d12,fun a=>ff h15 a,h.d17⟩
theorem J7.s15 {x:Value} (h:J7 wk b2 k p n up e v W) (h17:e 17=false) (h12:e 12=true) (h14:e 14=true) (hE:Ext wk W') (hx:zy W' wk.heap.size x (p++[n])):J7 wk b2 k p n up (upd e 15 true) (upd v 15 x) W':=
 ⟨fun _=>hE,h.l,fun _ a=>(by cases a),fun _ a=>(by cases a),fun _ _=>hx,h.ix,fun a=>ff h17 a,h.d12,fun _=>⟨h12,h14⟩,fun a=>⟨rfl,(h.d17 a).2⟩⟩
theorem J7.s16 (h:J7 wk b2 k p n up e v W):J7 wk b2 k p n up (upd e 16 true) (upd v 16 (.pointer (some ⟨b2,k,none⟩))) W:=
 ⟨h.ext,h.l,h.c,h.b,h.ap,fun _=>rfl,h.st,h.d12,h.d15,fun a=>⟨(h.d17 a).1,rfl⟩⟩
theorem J7.s17 {x:Value} (h:J7 wk b2 k p n up e v W) (h17:e 17=false) (h15:e 15=true) (h16:e 16=true) (hW:W'=W.setCell ⟨b2,k,none⟩ (v 15)):J7 wk b2 k p n up (upd e 17 true) (upd v 17 x) W':=
 ⟨fun a=>(by cases a),h.l,fun _ a=>ff (b:=e 15) a h15,fun _ a=>ff (b:=e 15) a h15,fun _ a=>(by cases a),h.ix,fun _=>⟨W,h.ext h17,h.ap h15 h17,hW⟩,h.d12,h.d15,fun _=>⟨h15,h16⟩⟩
theorem WO.store {w:World} {m:MZ} {ch us:List Int} {vsp:List Value} {f u t v1 x:Value} {gs gm:Nat} {c:Nat} (h:WO w W m ch vsp f u t gs gm v1 (.slice (some ⟨b2,0,none⟩) vsp.length c) us) (hb2:w.heap.size≤b2):
  WO w (W.setCell ⟨b2,k,none⟩ x) m ch (vsp.set k x) f u t gs gm v1 (.slice (some ⟨b2,0,none⟩) vsp.length c) us:=by
 have h2:zbj (W.setCell ⟨b2,k,none⟩ x) w.heap.size (.slice (some ⟨b2,0,none⟩) vsp.length c) (vsp.set k x):=by
  have:=(World.ownsRow.stored h.ps k x).1;unfold zbj;rw [List.length_set];exact this
 have hg:=(World.ownsRow.stored h.ps k x).2;have h3:v1.ownBlock=none∨v1.ownBlock≠some b2:=own_ne h.ch h.ps (by decide);have h4:b2≠gs:=fun e=>zbG h.blk h.ps (by decide) (by rw [←e];rfl)
 have h5:b2≠gm:=fun e=>by
  rcases zbb h.ps h.set with h | h
  ·cases h
  ·exact h (by rw [←e];rfl)
 exact ⟨za4 h.ext hg h.ext.size hb2,h.hs,h.hm,(hg.block gs (zb h.blk) (fun e=>by injection e with e;exact h4 e.symm)).trans h.blk,World.ownsRow.kept h.ch hg h3,h2,(hg.block gm (zb h.set) (fun e=>by injection e with e;exact h5 e.symm)).trans h.set⟩
end
theorem with_calls {ok:Nat→Prop} {m:MZ} {ch us:List Int} {ps:List (List Int)} {g gu:Nat} {f u ts vc vp:Value} (n:Int) (w:World) (h:zaZ w ok g m ch ps us f u ts vc vp gu) (so:SOk m ch ps) (so1:SOk m (ch++[n]) (zbx ps n)) (hp:0<ps.length):
  Calls Tryz.prog 85 #[.pointer (some ⟨g,0,none⟩),.int .i64 n] w fun e w'=>∃v',e=.returned v'∧Ext w w'∧∃us',(∀x,x∈us'↔x=n∨x∈us)∧StateV w' (fun b=>ok b∨w.heap.size≤b) v' m (ch++[n]) (zbe m ps n) us':=by
 obtain ⟨r0,r1,r2,r3,r4,r5,r6,r7,r8⟩:=h.rules;have hps:=h.ps;have hch:=h.ch;have hmz:=h.maze;obtain ⟨fr',up',ts',hee,_,_,hts⟩:=hmz;injection hee with hee;injection hee with hee;simp only [List.cons.injEq,and_true,true_and] at hee;obtain ⟨rfl,rfl,rfl⟩:=hee;obtain ⟨vst,⟨At,ct,rfl,hct,_⟩,_⟩:=hts;have SO1:=zh so1;clear so1;have HS:=zh h;clear h;have so_pl:ps.length≤6:=Nat.le_trans so.pl so.good.tk;have SO:=zh so;clear so;obtain ⟨vs,hrow,hep⟩:=hps
 have hvl:vs.length=ps.length:=by
  obtain ⟨_,_,_,_,hr⟩:=hrow;have:=hr.1;omega
 have h1:∀u∈vs,u.oneCell'=true:=by
  intro u hu;obtain ⟨i,hi,rfl⟩:=List.getElem_of_mem hu;obtain ⟨u',hu',hr'⟩:=hep i _ (List.getElem?_eq_getElem (by omega:i<ps.length));rw [List.getElem?_eq_getElem hi] at hu';injection hu' with hu';rw [hu'];exact zcL hr'
 rw [←hvl] at hrow;have hvl6:vs.length≤6:=by have:=so_pl;omega
 have H1:=zh h1;clear h1;have HVL:=zh hvl;clear hvl;have HROW:=zh hrow;clear hrow;have HEP:=zh hep;clear hep;have hmm:=@run_makeMap Tryz.prog;have hx:=Ext.refl w
 go_enter Tryz.func85,Tryz.ntmps85
 go_wp2_with fail
 refine wp_region_held_drew (S:=(fun w'=>Ext w w')) (by kernel_rfl) (zco) (fun zH=>?_);refine rtT 0 zH ?_;simp only [za,Act.put];refine rtT 1 zH ?_;simp only [za,Act.put];refine rtT 2 zH ?_;simp only [za,Act.put];refine rtT 3 zH ?_;simp only [za,Act.put];refine rtT 4 zH ?_;simp only [za,Act.put];refine rtT 5 zH ?_;simp only [za,Act.put];refine rtT 6 zH ?_;simp only [za,Act.put];refine rtT 7 zH ?_;simp only [za,Act.put];refine rtT 9 zH ?_;simp only [za,Act.put];refine rtT 12 zH ?_;simp only [za,Act.put];refine rtT 13 zH ?_;simp only [za,Act.put];refine rtT 14 zH ?_;simp only [za,Act.put];refine rtT 15 zH ?_;simp only [za,Act.put];refine rtT 18 zH ?_;simp only [za,Act.put];refine zaY [8,10,11,16,17,19,20,21,22,23] (fun e v W=>JW w ch n vs m f u (.slice At m.tasks.length ct) e v W) (F:=?F1) (by kernel_rfl) (by kernel_rfl) (by decide) zH (fun v=>?hF1) ?init1 (by kernel_rfl) ?steps1 ?fin1
 case hF1=>(simp only [zK,zbp,List.getElem?_toArray,List.getElem?_cons_succ,List.getElem?_cons_zero,Option.bind,Act.put,List.setIfInBounds_toArray,List.set_cons_succ,List.set_cons_zero];rfl)
 case init1=>
  intro e v he;exact JW.init he
 case steps1=>
  refine zg.cons rfl (fun e v W K hJ hW he hd hK=>?_) ?_
  ·simp only [za] at hd hK⊢;go_simp;go_at_call 46;refine (zcF _ (HS.out.ext hW).ch (by have:=SO.out.cl;omega)).mono ?_;rintro e9 w9 ⟨v9,rfl,hM⟩;exact hK.out _ v9 _ (by rfl) (hW.trans hM.ext) ((hJ.keep hM.ext).s8 (hJ.n11 he) (hM.own.mono hW.size))
  refine zg.cons rfl (fun e v W K hJ hW he hd hK=>?_) ?_
  ·simp only [za] at hd hK⊢;go_simp;exact hK.out _ _ _ (by rfl) (hW.alloc _) ((hJ.keep ((Ext.refl W).alloc _)).s10 (zm _ _ _ rfl))
  refine zg.cons rfl (fun e v W K hJ hW he hd hK=>?_) ?_
  ·simp only [za] at hd hK⊢;have h8:e 8=true:=zk hd [8] (by kernel_rfl) 8 (by simp);have h10:e 10=true:=zk hd [10] (by kernel_rfl) 10 (by simp);obtain ⟨gb,hv10,hc10⟩:=hJ.b h10 he;rw [if_pos (by rfl)];refine zbE (ok:=fun _=>True) W _ _ (by rfl) w.heap.size ch [n] (v 8) (v 10) (by rfl) (by rfl) (hJ.c1 h8 he) (by rw [hv10];exact zcp hc10) hW.size (by have:=SO.out.cl;simp;omega) ?_;intro v9 w9 ho hg _;exact hK.out _ v9 _ (by rfl) (zT hW hg hW.size (fun k hk=>za8 (hJ.c1 h8 he) hk)) (hJ.s11 h8 he (hJ.n21 he) (hJ.n22 (hJ.n21 he)) ho hg)
  refine zg.cons rfl (fun e v W K hJ hW he hd hK=>?_) ?_
  ·simp only [za] at hd hK⊢;go_simp;go_at_call 108;refine (cloneL_calls _ (HROW.out.below hW) H1.out (by omega)).mono ?_;rintro e9 w9 ⟨v9,rfl,hE,hO⟩;exact hK.out _ v9 _ (by rfl) (hW.trans hE) ((hJ.keep hE).s16 (hJ.n21' he) (hJ.n22 (hJ.n21' he)) (hO.mono hW.size))
  refine zg.cons rfl (fun e v W K hJ hW he hd hK=>?_) ?_
  ·simp only [za] at hd hK⊢;go_simp;exact hK.out _ _ _ (by rfl) (hW.alloc _) ((hJ.keep ((Ext.refl W).alloc _)).s17 (hJ.n19 he) (hJ.n20 (hJ.n19 he)) hW.size (zA.new _))
  refine zg.cons rfl (fun e v W K hJ hW he hd hK=>?_) ?_
  ·simp only [za] at hd hK⊢;have h17:e 17=true:=zk hd [17] (by kernel_rfl) 17 (by simp);obtain ⟨gm,hv17,hgm,hset⟩:=hJ.mm h17;rw [he] at hset;obtain ⟨w9,hrun,hs9,hg9⟩:=run_add hset n 79 Tryz.underlying79;have hrun':(Instr.mapUpdate 79 (v 17) (.int .i64 n) (.bool true)).run Tryz.prog W=.ok () w9:=by rw [hv17];exact hrun
   have HJ:=zh (hJ.s19 (x:=undef) h17 hv17 hset (hJ.n22 (hJ.n21'' (hJ.n20 he))) (by have:=hs9;rwa [ins_new (by simp)] at this) hg9 hgm);clear hrun hs9 hset hv17;go_simp;exact hK.out _ undef _ (by rfl) HJ.out.ext HJ.out
  refine zg.cons rfl (fun e v W K hJ hW he hd hK=>?_) ?_
  ·simp only [za] at hd hK⊢;have h19:e 19=true:=zk hd [19] (by kernel_rfl) 19 (by simp);go_simp;exact hK.out _ (v 17) _ (by rfl) hW (hJ.s20 h19 (hJ.n21'' he) (hJ.n22 (hJ.n21'' he)))
  refine zg.cons rfl (fun e v W K hJ hW he hd hK=>?_) ?_
  ·simp only [za] at hd hK⊢;have h11:e 11=true:=zk hd [11] (by kernel_rfl) 11 (by simp);have h16:e 16=true:=zk hd [16] (by kernel_rfl) 16 (by simp);have h20:e 20=true:=zk hd [20] (by kernel_rfl) 20 (by simp);obtain ⟨A1,c1,hv11,_⟩:=za6 (hJ.ap h11);obtain ⟨A2,c2,hv16,_⟩:=Row.of_own (hJ.c2 h16);have h17:=hJ.d19 (hJ.d20 h20);obtain ⟨gm,hv17,_,_⟩:=hJ.mm h17;have hv20:=(hJ.mv h20).trans hv17;clear hv17;go_simp;exact hK.out _ (.agg #[.int .i64 m.w,.int .i64 m.h,.int .i64 m.l,f,u,.slice At m.tasks.length ct,v 11,v 16,v 20]) _ (by simp [Act.put,hv11,hv16,hv20]) hW (hJ.s21 ⟨h11,h16,h20⟩ rfl)
  refine zg.cons rfl (fun e v W K hJ hW he hd hK=>?_) ?_
  ·simp only [za] at hd hK⊢;have h21:e 21=true:=zk hd [21] (by kernel_rfl) 21 (by simp);have hv21:=hJ.bd h21;go_simp;exact hK.out _ _ _ (by simp [Act.put,hv21]) (hW.alloc _) ((hJ.keep ((Ext.refl W).alloc _)).s22 h21 (hJ.n23 he) hW.size (Blk.new _ _ _ rfl))
  refine zg.cons rfl (fun e v W K hJ hW he hd hK=>?_) ?_
  ·simp only [za] at hd hK⊢;have h22:e 22=true:=zk hd [22] (by kernel_rfl) 22 (by simp);go_simp;exact hK.out _ (v 22) _ (by rfl) hW (hJ.s23 h22)
  exact zg.nil
 case fin1=>
  intro v W hJ hW;have e1:=hJ.fin rfl;obtain ⟨gs,hv22,hgs,hblk⟩:=hJ.bx rfl;obtain ⟨gm,hv17,hgm,hset⟩:=hJ.mm rfl;have hv20:=(hJ.mv rfl).trans hv17;have e2:=e1.trans hv22;rw [hv20] at hblk;have hWO:Hid (WO w W m (ch++[n]) vs f u (.slice At m.tasks.length ct) gs gm (v 11) (v 16) [n]):=⟨hJ.ext,hgs,hgm,hblk,hJ.ap rfl,hJ.c2 rfl,by simpa using hset⟩;generalize v 11=v1 at*;generalize v 16=v2 at*;rw [e2,hv22];clear hJ hblk hset hv20 hv17 hv22 e1 e2;have hrg:=run_range_map (P:=Tryz.prog) W 79 3 4 gu _ us.length Tryz.underlying79 ((HS.out.ext hW).us);have hRW:Hid (RW w (W.alloc (.mapIter (some gu) us.length #[] us.length)) m (ch++[n]) vs f u (.slice At m.tasks.length ct) gs gm v1 v2 [n] W.heap.size gu us n #[] us.length):=⟨hWO.out.keep ((Ext.refl W).alloc _),heap_alloc_new _ _,hW.size,Nat.le_refl _,((HS.out.ext hW).us).below ((Ext.refl W).alloc _),fun x=>by simp⟩;have hgu:gu<w.heap.size:=zb HS.out.us;have hr8:=r8 W hW
  go_wp2_with fail
  generalize W.heap.size=r at*
  go_loopg [6] (leftN us.length #[]) (fun gk s6 wr=>∃us2 seen c0,gk=leftN us.length seen∧Hid (RW w wr m (ch++[n]) vs f u (.slice At m.tasks.length ct) gs gm v1 v2 us2 r gu us n seen c0))
  case atStart=>exact ⟨[n],#[],us.length,rfl,hRW⟩
  clear hRW
  case round=>
   obtain ⟨us2,seen,c0,rfl,hR⟩:=hrel;rcases set_next (P:=Tryz.prog) hR.out.old hR.out.it hR.out.hc with ⟨hall,hnx⟩ | ⟨i,hi,hns,w1,hal,hnx,hen⟩
   ·have hmem:Hid (∀x,x∈us2↔x=n∨x∈us):=fun x=>by rw [hR.out.mem];exact mem_all hall
    have hWO:=zh hR.out.wo;have hSt:=zh (WO.st HS.out HEP.out hR.out.wo HVL.out);have hxw:=hR.out.wo.ext
    go_wp2_with fail
    clear hR hall hnx;obtain ⟨wk,rfl⟩:∃wk:World,wk=wr:=⟨_,rfl⟩;refine (zaB _ hSt.out (by omega)).mono ?_;rintro e wt ⟨he9,hbt⟩;have hbt:Ext wk wt:=hbt ▸ Ext.refl _;obtain ⟨k,hk⟩:∃k,ps.length=k+1:=⟨ps.length - 1,by omega⟩;have hki:(ps.length:Int) - 1=(k:Int):=by omega
    rw [hki] at he9;subst he9;have hWO:=zh (hWO.out.keep hbt);have hxw:=hWO.out.ext;clear hSt hbt hki;have hkp:k<ps.length:=by omega
    obtain ⟨up,hup,hip⟩:=HEP.out k _ (List.getElem?_eq_getElem hkp);obtain ⟨p,hpp⟩:∃p,p=ps[k]:=⟨_,rfl⟩;rw [←hpp] at hip;have hpl:p.length≤1000:=by rw [hpp];exact SO.out.pp _ (List.getElem_mem hkp)
    have HPP:=zh hpp;clear hpp;have HUP:=zh hip;clear hip;have hvk:vs.length=k+1:=by have:=HVL.out;omega
    obtain ⟨b2,cp2,hv2,hb2,hb2lt⟩:=World.ownsRow.form hWO.out.ps (by omega);subst hv2;have hcu:wt.cell? ⟨b2,k,none⟩=some up:=by rw [World.ownsRow.cellAt hWO.out.ps k (by omega)];exact hup
    have hfz:wt.frozen? ⟨b2,k,none⟩=false:=World.ownsRow.frozenAt hWO.out.ps k;have rup:=Ext.rule hcu;have hcv2:wt.cell? ⟨gs,7,none⟩=some (.slice (some ⟨b2,0,none⟩) vs.length cp2):=hWO.out.blk.cell rfl;have hgslt0:gs<wt.heap.size:=zb hWO.out.blk;have hgb2:gs≠b2:=fun e=>zbG hWO.out.blk hWO.out.ps (by decide) (by rw [e];rfl)
    have HVK:=zh hvk;have hkv1:(k:Int)<(vs.length:Int):=by omega
    have hkv0:(0:Int)≤(k:Int):=by omega
    have hcp2:=own_capL hWO.out.ps;clear hcu hup hk hvk
    go_wp2_with fail
    refine wp_region_held_drew (S:=(fun W=>Ext w W∧W.cell? ⟨gs,7,none⟩=some (.slice (some ⟨b2,0,none⟩) vs.length cp2))) (by kernel_rfl) (⟨hxw.drew,hcv2⟩) (fun zH=>?_);refine rtT 0 zH ?_;simp only [za,Act.put];refine rtT 1 zH ?_;simp only [za,Act.put];refine rtT 2 zH ?_;simp only [za,Act.put];refine rtT 3 zH ?_;simp only [za,Act.put];refine rtT 4 zH ?_;simp only [za,Act.put];refine rtT 5 zH ?_;simp only [za,Act.put];refine rtT 6 zH ?_;simp only [za,Act.put];refine rtT 7 zH ?_;simp only [za,Act.put];refine rtT 8 zH ?_;simp only [za,Act.put];refine rtT 9 zH ?_;simp only [za,Act.put];refine rtT 10 zH ?_;simp only [za,Act.put];refine rtT 13 zH ?_;simp only [za,Act.put];refine zaY [11,12,14,15,16,17] (fun e v W=>J7 wt b2 k p n up e v W) (F:=?F16) (by kernel_rfl) (by kernel_rfl) (by decide) zH (fun v=>?hF16) ?init16 (by kernel_rfl) ?steps16 ?fin16
    case hF16=>(simp only [zK,zbp,List.getElem?_toArray,List.getElem?_cons_succ,List.getElem?_cons_zero,Option.bind,Act.put,List.setIfInBounds_toArray,List.set_cons_succ,List.set_cons_zero];rfl)
    case init16=>
     intro e v he;exact J7.init he
    case steps16=>
     refine zg.cons rfl (fun e v W K hJ hW he hd hK=>?_) ?_
     ·simp only [za] at hd hK⊢;have hE:=hJ.ext (hJ.n17 (hJ.n15 (hJ.n12 he)));have hcl:=rup W hE;go_simp;exact hK.out _ up _ (by rfl) hW (hJ.s11)
     refine zg.cons rfl (fun e v W K hJ hW he hd hK=>?_) ?_
     ·simp only [za] at hd hK⊢;have h11:e 11=true:=zk hd [11] (by kernel_rfl) 11 (by simp);have h15:=hJ.n15 he;have h17:=hJ.n17 h15;have hE:=hJ.ext h17;have hv11:=hJ.l h11;go_simp;go_at_call 46;refine (zcF _ (HUP.out.below (hxw.trans hE)) (by omega)).mono ?_;rintro e9 w9 ⟨v9,rfl,hM⟩;exact hK.out _ v9 _ (by simp [Act.put,hv11]) ⟨hW.1.trans hM.ext,hM.ext.cell hW.2⟩ (hJ.s12 h17 h15 h11 hM.ext (hM.own.mono hE.size))
     refine zg.cons rfl (fun e v W K hJ hW he hd hK=>?_) ?_
     ·simp only [za] at hd hK⊢;have h15:=hJ.n15' he;have h17:=hJ.n17 h15;go_simp;exact hK.out _ _ _ (by rfl) ⟨hW.1.alloc _,((Ext.refl W).alloc _).cell hW.2⟩ (hJ.s14 h17 h15 ((Ext.refl W).alloc _) (zm _ _ _ rfl))
     refine zg.cons rfl (fun e v W K hJ hW he hd hK=>?_) ?_
     ·simp only [za] at hd hK⊢;have h12:e 12=true:=zk hd [12] (by kernel_rfl) 12 (by simp);have h14:e 14=true:=zk hd [14] (by kernel_rfl) 14 (by simp);have h17:=hJ.n17 he;obtain ⟨gb,hv14,hc14⟩:=hJ.b h14 he;have hE:=hJ.ext h17;rw [if_pos (by rfl)];refine zbE (ok:=fun _=>True) W _ _ (by rfl) wt.heap.size p [n] (v 12) (v 14) (by rfl) (by rfl) (hJ.c h12 he) (by rw [hv14];exact zcp hc14) hE.size (by simp;omega) ?_;intro v9 w9 ho hg _;have hE9:Ext wt w9:=zT hE hg hE.size (fun k hk=>za8 (hJ.c h12 he) hk);exact hK.out _ v9 _ (by rfl) ⟨hxw.trans hE9,hE9.cell hcv2⟩ (hJ.s15 h17 h12 h14 hE9 ho)
     refine zg.cons rfl (fun e v W K hJ hW he hd hK=>?_) ?_
     ·simp only [za] at hd hK⊢;go_simp;exact hK.out _ _ _ (by rfl) hW hJ.s16
     refine zg.cons rfl (fun e v W K hJ hW he hd hK=>?_) ?_
     ·simp only [za] at hd hK⊢;have h15:e 15=true:=zk hd [15] (by kernel_rfl) 15 (by simp);have h16:e 16=true:=zk hd [16] (by kernel_rfl) 16 (by simp);have hE:=hJ.ext he;have hO15:=hJ.ap h15 he;obtain ⟨A9,c9,hv15,_⟩:=za6 hO15;rw [show (p++[n]).length=p.length+1 from by simp] at hv15;have hv16:=hJ.ix h16;have hcl:=rup W hE;have hfr:W.frozen? ⟨b2,k,none⟩=false:=(hE.frozen (p:=⟨b2,k,none⟩) hb2lt).trans hfz;have HJ:=zh (hJ.s17 (x:=undef) he h15 h16 rfl);have HE:=zh (show Ext w (W.setCell ⟨b2,k,none⟩ (v 15))∧(W.setCell ⟨b2,k,none⟩ (v 15)).cell? ⟨gs,7,none⟩=some (.slice (some ⟨b2,0,none⟩) vs.length cp2) from ⟨(hxw.trans hE).setCell hb2 _,(World.cell?_of_block (w:=W) (Below.heap_setCell W _ _ gs (fun e=>hgb2 e))).trans hW.2⟩);rw [hv15] at HJ HE;go_simp;exact hK.out _ undef _ (by simp [Act.put,hv15,hv16]) HE.out HJ.out
     exact zg.nil
    case fin16=>
     intro v W hJ hW;obtain ⟨W9,hE9,hO9,hW9⟩:=hJ.st rfl;generalize v 15=x15 at*;have hWO9:=zh ((hWO.out.keep hE9).store (k:=k) (x:=x15) hb2);have hEP2:Hid (∀(i:Nat) (x:List Int),(ps.set k (p++[n]))[i]?=some x→∃u,(vs.set k x15)[i]?=some u∧zf W (fun b=>(ok b∧b<w.heap.size)∨wt.heap.size≤b) u x):=by rw [hW9];exact paths_set HEP.out HVL.out hWO.out hE9 hb2 hb2lt (by omega) (Row.of_own hO9)
     rw [←hW9] at hWO9;clear hJ hO9 hW9 hWO hcv2 rup hE9;have hWO:=hWO9;clear hWO9;have hadd:zbx ps n=ps.set k (p++[n]):=by unfold zbx;rw [show ps.length - 1=k from by have:=HVL.out;have:=HVK.out;omega,HPP.out];simp [hkp]
     rw [←hadd] at hEP2;have HADD:=zh hadd;clear hadd;have hvl1:Hid ((vs.set k x15).length=(zbx ps n).length):=by have:=HVL.out;show _=_;unfold zbx;simp;omega
     have hvl0:Hid ((vs.set k x15).length=vs.length):=by show _=_;simp
     have hal:Hid ((zbx ps n).length=ps.length):=by show _=_;unfold zbx;simp
     generalize vs.set k x15=vs1 at*;have hok2:Hid (∀b,((ok b∧b<w.heap.size)∨wt.heap.size≤b)→ok b∨w.heap.size≤b):=fun b hb=>by rcases hb with h | h;exact .inl h.1;exact .inr (Nat.le_trans hxw.size h)
     have hSt:=zh (WO.st2 HS.out.maze hWO.out hvl1.out hEP2.out hok2.out);have hxW:=hWO.out.ext;have hvb2:Hid (b2<wt.heap.size):=hb2lt;have hgslt:Hid (gs<wt.heap.size):=hgslt0;have hal0:0<(zbx ps n).length:=by have:=hal.out;omega
     have hcv2:W.cell? ⟨gs,7,none⟩=some (.slice (some ⟨b2,0,none⟩) vs.length cp2):=hWO.out.blk.cell rfl;have hct5:=r5 W hxW;obtain ⟨b,hb⟩:∃b,b=finB m (zbx ps n):=⟨_,rfl⟩;have HB:=zh hb;clear hb;have hfc:∀q:Nat,Calls Tryz.prog 87 #[.pointer (some ⟨gs,0,none⟩)] (W.drewN q) fun e w'=>e=.returned (.bool b)∧zG (W.drewN q) w':=fun q=>by rw [HB.out];exact zcY _ (hSt.out.ext ((Ext.refl W).drewN q)) SO1.out hal0
     have HFC:=zh hfc;clear hfc;clear hal0
     cases b with
     | false=>
      have hwp:zbe m ps n=zbx ps n:=by unfold zbe;rw [if_neg (fun h=>by rw [←HB.out] at h;cases h.1)]
      have HWP:=zh hwp;clear hwp
      go_wp2_with fail
      go_quiet ((go_at_call 87;refine (HFC.out _).mono ?_;rintro e w9 ⟨he9,nd,rfl⟩;exact ⟨he9,⟨_,World.drewN_drewN _ _ _⟩⟩))
      go_wp2_with fail
      go_ret;exact ⟨_,rfl,hxW.drewN _,us2,hmem.out,gs,_,_,_,_,_,gm,rfl,by rw [HWP.out];exact hSt.out.ext ((Ext.refl W).drewN _)⟩
     | true=>
      by_cases hlt:vs.length<m.tasks.length
      ·have hwp:zbe m ps n=zbx ps n++[[]]:=by unfold zbe;rw [if_pos ⟨HB.out.symm,by have:=HVL.out;omega⟩]
       have HWP:=zh hwp;clear hwp;have hd:decide ((vs.length:Int)<(m.tasks.length:Int))=true:=decide_eq_true (by omega)
       go_wp2_with fail
       go_quiet ((go_at_call 87;refine (HFC.out _).mono ?_;rintro e w9 ⟨he9,nd,rfl⟩;exact ⟨he9,⟨_,World.drewN_drewN _ _ _⟩⟩))
       generalize hW4:W.drewN nq=W4;have hE4:Ext W W4:=by rw [←hW4];exact (Ext.refl W).drewN _
       clear hW4;have hWO4:=zh (hWO.out.keep hE4);have hWO5:=zh (hWO4.out.keep ((Ext.refl W4).alloc (.cells #[.slice none 0 0] 23)));have hx4:=hWO4.out.ext;have hc4:W4.cell? ⟨gs,7,none⟩=some (.slice (some ⟨b2,0,none⟩) vs.length cp2):=hWO4.out.blk.cell rfl;have hz4:w.heap.size≤(W4.alloc (.cells #[.slice none 0 0] 23)).heap.size:=hWO5.out.ext.size;have hv6:vs1.length≤6:=by have:=hvl0.out;omega
       go_wp2_with (at_builtin;refine za1 (ok:=fun _=>True) rfl _ _ _ rfl w.heap.size vs1 [.slice none 0 0] _ _ rfl rfl hWO5.out.ps (row_nil1 (g:=W4.heap.size) (zm _ _ _ rfl) trivial) (by simp [Value.oneCell']) hz4 (by simp;omega) ?_)
       intro v' w6 ho6 hg6 _;have hWO6:=zh (hWO5.out.app ho6 hg6.out);have hb6:Blk w6 gs 100 _:=(hg6.out.block gs (zb hWO5.out.blk) (fun e=>zbG hWO5.out.blk hWO5.out.ps (by decide) e.symm)).trans hWO5.out.blk;have hc6:=hb6.cell (k:=7) rfl;have hf6:=hb6.frozen 7
       have hSame:Hid (zX (fun b=>(ok b∧b<w.heap.size)∨wt.heap.size≤b) W (w6.setCell ⟨gs,7,none⟩ v')):=fun b hb hlt=>by
        have hne:b≠gs∧b≠b2:=by
         have h1:=hWO.out.hs;have h2:=hgslt.out;have h3:=hvb2.out;rcases hb with h | h <;> omega
        rw [Below.heap_setCell w6 ⟨gs,7,none⟩ v' b hne.1,hg6.out.block b (Nat.lt_of_lt_of_le hlt (hE4.trans ((Ext.refl W4).alloc _)).size) (fun e=>hne.2 (by have e':some b=some b2:=e;injection e'))];exact (hE4.trans ((Ext.refl W4).alloc (.cells #[.slice none 0 0] 23))).block b hlt
       have hEP3:=zh (paths_app hEP2.out hvl1.out hSame.out);have hSt6:=zh (WO.st2 HS.out.maze hWO6.out (by have:=hvl1.out;simp;omega) hEP3.out hok2.out);obtain ⟨A6,c6,hv6',_⟩:=Row.of_own ho6;subst hv6';have hln:(vs1++[Value.slice none 0 0]).length=vs1.length+1:=by simp
       rw [hln] at hWO6 hSt6;clear hln;clear ho6 hg6 hb6 hSame hEP3 hWO5 hWO4 hSt
       go_wp2_with fail
       go_ret;exact ⟨_,rfl,hWO6.out.ext,us2,hmem.out,gs,_,_,_,_,_,gm,rfl,by rw [HWP.out];exact hSt6.out⟩
      ·have hwp:zbe m ps n=zbx ps n:=by unfold zbe;rw [if_neg (fun h=>by have:=h.2;have:=HVL.out;omega)]
       have HWP:=zh hwp;clear hwp;have hd:decide ((vs.length:Int)<(m.tasks.length:Int))=false:=decide_eq_false (by omega)
       go_wp2_with fail
       go_quiet ((go_at_call 87;refine (HFC.out _).mono ?_;rintro e w9 ⟨he9,nd,rfl⟩;exact ⟨he9,⟨_,World.drewN_drewN _ _ _⟩⟩))
       go_wp2_with fail
       go_ret;exact ⟨_,rfl,hxW.drewN _,us2,hmem.out,gs,_,_,_,_,_,gm,rfl,by rw [HWP.out];exact hSt.out.ext ((Ext.refl W).drewN _)⟩
   ·obtain ⟨hWO2,hit2,hold2⟩:=hR.out.step (i:=i) hgu hal;generalize setBlock w1 r (.mapIter (some gu) us.length (seen.push i) us.length)=W2 at*;have hx2:=hWO2.ext;have hcm:W2.cell? ⟨gs,8,none⟩=some (.map (some gm)):=hWO2.blk.cell rfl
    go_wp2_with (at_mapUpdate;refine zbD rfl _ _ _ _ rfl Tryz.underlying79 gm us2 us[i] rfl rfl rfl hWO2.set ?_)
    intro w9 hs9 hg9;have hR2:Hid (RW w w9 m (ch++[n]) vs f u (.slice At m.tasks.length ct) gs gm v1 v2 (ins us2 us[i]) r gu us n (seen.push i) us.length):=⟨hWO2.add hs9 hg9,(hg9.block r (zb hit2) (fun e=>by injection e with e;exact iter_ne hit2 hWO2.set (fun _ _ _ _ h=>by cases h) e.symm)).trans hit2,hR.out.hr,Nat.le_refl _,(hg9.block gu (zb hold2) (fun e=>by injection e with e;have:=hWO2.hm;omega)).trans hold2,fun x=>by rw [mem_ins,hR.out.mem];exact mem_step hi⟩;clear hs9 hg9 hWO2 hit2 hold2 hx2 hcm hR hnx hen
    go_wp2_with fail
    go_roundg (leftN us.length (seen.push i))
    case measure=>exact leftN_step hi hns
    case rel=>exact ⟨_,_,_,rfl,hR2⟩
end Go.Proofs.YthbjngbhbbkkgaaGreat
