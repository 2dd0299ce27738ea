/- RtMw RtAr RtSb -/
import Derived.Test.YthbjngbhbbkkgaaGreatHUa
import Derived.Test.YthbjngbhbbkkgaaGreatHUb
import Derived.Test.YthbjngbhbbkkgaaGreatHUc
import Derived.Test.YthbjngbhbbkkgaaGreatHUd
import Derived.Test.YthbjngbhbbkkgaaGreatHUe
import Derived.Test.YthbjngbhbbkkgaaGreatHUf
import Derived.Test.YthbjngbhbbkkgaaGreatHUg
import Derived.Test.YthbjngbhbbkkgaaGreatHUh
import Derived.Test.YthbjngbhbbkkgaaGreatHUi
import Derived.Test.YthbjngbhbbkkgaaGreatHUj
import Derived.Test.YthbjngbhbbkkgaaGreatHUk
import Derived.Test.YthbjngbhbbkkgaaGreatHUl
import Derived.Test.YthbjngbhbbkkgaaGreatHUm
import Derived.Test.YthbjngbhbbkkgaaGreatHUn
import Derived.Test.YthbjngbhbbkkgaaGreatHUo
set_option linter.unusedVariables false
set_option linter.unusedSimpArgs false
set_option maxRecDepth 100000
set_option maxHeartbeats 16000000
namespace Go.Proofs.YthbjngbhbbkkgaaGreat
open Go.RowKit
theorem Tryz.infoTask:(Tryz.prog.info? 56).map (fun i=>(i.zero,i.size,i.bytes))=some (some (.agg #[.string ⟨#[]⟩,.slice none 0 0,.slice none 0 0]),3,64):=by kernel_rfl
theorem Tryz.infoBools:(Tryz.prog.info? 29).map (fun i=>(i.zero,i.size,i.bytes))=some (some (.slice none 0 0),1,24):=by kernel_rfl
def zR (B:Nat) (w:World) (g:Nat):Prop:=B≤g∧∃(v:Value) (k:Nat) (l:List Int),Blk w g 108 #[v,.int .i64 k]∧zf w (fun b=>b<B) v l∧l.length≤9223372036854775807∧k≤l.length
section
variable {B:Nat} {w w':World} {g:Nat}
theorem zR.keep (h:zR B w g) (hE:Below B w w') (hb:w'.heap[g]?=w.heap[g]?):zR B w' g:=by
 obtain ⟨h0,v,k,l,h1,h2,h3⟩:=h;exact ⟨h0,v,k,l,hb.trans h1,h2.keep fun b hb hlt=>hE.block b hb,h3⟩
theorem zR.ext (h:zR B w g) (hE:Ext w w') (hB:B≤w.heap.size):zR B w' g:=by
 obtain ⟨h0,v,k,l,h1,h2,h3⟩:=h;exact ⟨h0,v,k,l,(hE.block g (zb h1)).trans h1,h2.below hE,h3⟩
theorem zR.lt (h:zR B w g):g<w.heap.size:=by
 obtain ⟨h0,v,k,l,h1,h2,h3⟩:=h;exact zb h1
theorem zR.blk (h:zR B w g):∃cs,Blk w g 108 cs:=by
 obtain ⟨h0,v,k,l,h1,h2,h3⟩:=h;exact ⟨_,h1⟩
theorem zN (n:Int) (h:zR B w g) (hn:0<n) (hn2:n≤1000000):
  Calls Tryz.prog 68 #[.pointer (some ⟨g,0,none⟩),.int .i64 n] w fun e w'=>∃x,e=.returned (.int .i64 x)∧0≤x∧x<n∧zR B w' g∧w.grownBy w' (some g):=by
 obtain ⟨h0,v,k,l,h1,h2,h3,h4⟩:=h;refine (draw_calls g k n w h1 h2 (by omega) h3 h4 hn hn2).mono ?_;rintro e w' ⟨rfl,hb,hg⟩;refine ⟨_,rfl,?_,?_,⟨h0,v,drawK l k,l,hb,h2.keep fun b hb hlt=>hg.block b hlt (fun e=>by injection e with e;omega),h3,?_⟩,hg⟩
 ·unfold drawV
  split
  ·exact Int.emod_nonneg _ (by omega)
  ·exact Int.le_refl _
 ·unfold drawV
  split
  ·exact Int.emod_lt_of_pos _ hn
  ·exact hn
 ·unfold drawK
  split <;> omega
end
theorem zaj {w w':World} {B:Nat} {e:TypeId} {sz n:Nat} {v:Value} {xs:List Value} (h:w.ownsRow B e sz v n xs) (hk:∀g,v.ownBlock=some g→w'.heap[g]?=w.heap[g]?):w'.ownsRow B e sz v n xs:=by
 obtain ⟨hl,h0 | ⟨g,cap,cur,rfl,h1,h2,h3⟩⟩:=h
 ·exact ⟨hl,.inl h0⟩
 ·exact ⟨hl,.inr ⟨g,cap,cur,rfl,h1,(hk g rfl).trans h2,h3⟩⟩
def OwnB (w:World) (B:Nat) (v:Value) (l:List Bool):Prop:=w.ownsRow B 4 1 v l.length (l.map Value.bool)
theorem OwnB.bools {w:World} {B:Nat} {v:Value} {l:List Bool} (h:OwnB w B v l):zaQ w (fun b=>B≤b) v l:=Row.of_own h
def BoolD (w:World) (B S n:Nat) (u:Value):Prop:=∃l,OwnB w B u l∧l.length=n∧∀g,u.ownBlock=some g→g<S
def TaskD (w:World) (B S n:Nat) (u1 u2:Value):Prop:=
 ∃l1 l2,zy w B u1 l1∧zy w B u2 l2∧(l1≠[]∧l2≠[])∧(l1.length≤2∧l2.length≤2)∧(∀x,x∈l1∨x∈l2→0≤x∧x<n)∧(∀g,u1.ownBlock=some g∨u2.ownBlock=some g→g<S)
section
variable {w w':World} {B S S' n:Nat} {u u1 u2:Value}
theorem BoolD.keep (h:BoolD w B S n u) (hk:∀g cs,g<S→Blk w g 4 cs→w'.heap[g]?=w.heap[g]?) (hS:S≤S'):BoolD w' B S' n u:=by
 obtain ⟨l,h1,h2,h3⟩:=h;refine ⟨l,?_,h2,fun g hg=>Nat.lt_of_lt_of_le (h3 g hg) hS⟩;obtain ⟨hl,h0 | ⟨g,cap,cur,rfl,h4,h5,h6⟩⟩:=h1
 ·exact ⟨hl,.inl h0⟩
 ·exact ⟨hl,.inr ⟨g,cap,cur,rfl,h4,(hk g cur (h3 g rfl) h5).trans h5,h6⟩⟩
theorem zbl {v:Value} {l:List Int} (h:zy w B v l) (hk:∀g cs,v.ownBlock=some g→Blk w g 3 cs→w'.heap[g]?=w.heap[g]?):zy w' B v l:=by
 obtain ⟨hl,h0 | ⟨g,cap,cur,rfl,h4,h5,h6⟩⟩:=h
 ·exact ⟨hl,.inl h0⟩
 ·exact ⟨hl,.inr ⟨g,cap,cur,rfl,h4,(hk g cur rfl h5).trans h5,h6⟩⟩
theorem TaskD.keep (h:TaskD w B S n u1 u2) (hk:∀g cs,g<S→Blk w g 3 cs→w'.heap[g]?=w.heap[g]?) (hS:S≤S'):TaskD w' B S' n u1 u2:=by
 obtain ⟨l1,l2,h1,h2,h3,h4,h5,h6⟩:=h;exact ⟨l1,l2,zbl h1 (fun g cs hg hb=>hk g cs (h6 g (.inl hg)) hb),zbl h2 (fun g cs hg hb=>hk g cs (h6 g (.inr hg)) hb),h3,h4,h5,fun g hg=>Nat.lt_of_lt_of_le (h6 g hg) hS⟩
theorem BoolD.store (h:BoolD w B S n u) (p:Addr) (hp:p.spot=none) (b:Bool):BoolD (w.setCell p (.bool b)) B S n u:=by
 obtain ⟨l,h1,h2,h3⟩:=h;obtain ⟨pb,po,ps⟩:=p;obtain rfl:ps=none:=hp;obtain ⟨hl,⟨rfl,h0⟩ | ⟨g,cap,cur,rfl,h4,h5,h6,h7,h8,h9⟩⟩:=h1
 ·exact ⟨l,⟨hl,.inl ⟨rfl,h0⟩⟩,h2,h3⟩
 ·by_cases hg:g=pb
  ·subst hg;refine ⟨l.set po b,?_,by simpa using h2,h3⟩;have h10:w.ownsRow B 4 1 (.slice (some ⟨g,0,none⟩) l.length cap) l.length (l.map Value.bool):=⟨hl,.inr ⟨g,cap,cur,rfl,h4,h5,h6,h7,h8,h9⟩⟩;have h11:=(h10.stored po (.bool b)).1;unfold OwnB;rw [List.length_set,List.map_set];exact h11
  ·exact ⟨l,⟨hl,.inr ⟨g,cap,cur,rfl,h4,(Below.heap_setCell w ⟨pb,po,none⟩ _ g hg).trans h5,h6,h7,h8,h9⟩⟩,h2,h3⟩
end
structure MS (B:Nat) (w:World) (S gm gd:Nat) (W H L:Int) (n tF tT:Nat) (vF vU vT:Value) (fs ts:List Value):Prop where
 hB:B≤w.heap.size
 hS:S≤w.heap.size
 mz:Blk w gm 32 #[.int .i64 W,.int .i64 H,.int .i64 L,vF,vU,vT]
 gm0:B≤gm
 dr:zR B w gd
 F:w.ownsRow B 29 1 vF tF fs
 T:w.ownsRow B 56 3 vT tT ts
 fd:∀j,j<tF→∃u,fs[j]?=some u∧BoolD w B S n u
 td:∀j,j<tT→∃s u1 u2,ts[j*3]?=some (.string s)∧ts[j*3+1]?=some u1∧ts[j*3+2]?=some u2∧TaskD w B S n u1 u2
section
variable {B:Nat} {w w':World} {S S' gm gd:Nat} {W H L:Int} {n tF tT:Nat} {vF vU vU' vT:Value} {fs ts:List Value}
theorem MS.keep (h:MS B w S gm gd W H L n tF tT vF vU vT fs ts) (hsz:w.heap.size≤w'.heap.size) (hm:w'.heap[gm]?=w.heap[gm]?) (hd:zR B w' gd)
  (hk:∀g ty cs,g<w.heap.size→Blk w g ty cs→ty=29∨ty=56→g∉([]:List Nat)→w'.heap[g]?=w.heap[g]?) (hk2:∀g ty cs,g<S→Blk w g ty cs→ty=4∨ty=3→w'.heap[g]?=w.heap[g]?) (hS:S≤S') (hS':S'≤w'.heap.size):
  MS B w' S' gm gd W H L n tF tT vF vU vT fs ts:=by
 refine ⟨Nat.le_trans h.hB hsz,hS',hm.trans h.mz,h.gm0,hd,?_,?_,fun j hj=>?_,fun j hj=>?_⟩
 ·obtain ⟨hl,h0 | ⟨g,cap,cur,rfl,h4,h5,h6⟩⟩:=h.F
  ·exact ⟨hl,.inl h0⟩
  ·exact ⟨hl,.inr ⟨g,cap,cur,rfl,h4,(hk g _ cur (zb h5) h5 (.inl rfl) (by simp)).trans h5,h6⟩⟩
 ·obtain ⟨hl,h0 | ⟨g,cap,cur,rfl,h4,h5,h6⟩⟩:=h.T
  ·exact ⟨hl,.inl h0⟩
  ·exact ⟨hl,.inr ⟨g,cap,cur,rfl,h4,(hk g _ cur (zb h5) h5 (.inr rfl) (by simp)).trans h5,h6⟩⟩
 ·obtain ⟨u,h1,h2⟩:=h.fd j hj;exact ⟨u,h1,h2.keep (fun g cs hg hb=>hk2 g _ cs hg hb (.inl rfl)) hS⟩
 ·obtain ⟨s,u1,u2,h1,h2,h3,h4⟩:=h.td j hj;exact ⟨s,u1,u2,h1,h2,h3,h4.keep (fun g cs hg hb=>hk2 g _ cs hg hb (.inr rfl)) hS⟩
theorem MS.ext (h:MS B w S gm gd W H L n tF tT vF vU vT fs ts) (hE:Ext w w'):MS B w' w'.heap.size gm gd W H L n tF tT vF vU vT fs ts:=
 h.keep hE.size (hE.block gm (zb h.mz)) (h.dr.ext hE h.hB) (fun g _ _ hg _ _ _=>hE.block g hg) (fun g _ _ hg _ _=>hE.block g (Nat.lt_of_lt_of_le hg h.hS)) (Nat.le_trans h.hS hE.size) (Nat.le_refl _)
theorem MS.extS (h:MS B w S gm gd W H L n tF tT vF vU vT fs ts) (hE:Ext w w'):MS B w' S gm gd W H L n tF tT vF vU vT fs ts:=
 h.keep hE.size (hE.block gm (zb h.mz)) (h.dr.ext hE h.hB) (fun g _ _ hg _ _ _=>hE.block g hg) (fun g _ _ hg _ _=>hE.block g (Nat.lt_of_lt_of_le hg h.hS)) (Nat.le_refl _) (Nat.le_trans h.hS hE.size)
theorem MS.drawn (h:MS B w S gm gd W H L n tF tT vF vU vT fs ts) (hd:zR B w' gd) (hg:w.grownBy w' (some gd)):MS B w' S gm gd W H L n tF tT vF vU vT fs ts:=by
 obtain ⟨cs,hb⟩:=h.dr.blk
 have hne:∀g ty cs',Blk w g ty cs'→ty≠108→w'.heap[g]?=w.heap[g]?:=fun g ty cs' hb' hty=>hg.block g (zb hb') (fun e=>by
  injection e with e;exact Blk.ne_ hb' hb hty e)
 refine h.keep hg.size (hne gm _ _ h.mz (by decide)) hd (fun g ty cs' _ hb' ht _=>hne g ty cs' hb' (by rcases ht with rfl | rfl <;> decide)) (fun g ty cs' _ hb' ht=>hne g ty cs' hb' (by rcases ht with rfl | rfl <;> decide)) (Nat.le_refl _) (Nat.le_trans h.hS hg.size)
theorem MS.store (h:MS B w S gm gd W H L n tF tT vF vU vT fs ts) {g k:Nat} {cs:Array Value} (hb:Blk w g 4 cs) (hgB:B≤g) (b:Bool):MS B (w.setCell ⟨g,k,none⟩ (.bool b)) S gm gd W H L n tF tT vF vU vT fs ts:=by
 have hne:∀g' ty cs',Blk w g' ty cs'→ty≠4→(w.setCell ⟨g,k,none⟩ (.bool b)).heap[g']?=w.heap[g']?:=fun g' ty cs' hb' hty=>Below.heap_setCell w ⟨g,k,none⟩ _ g' (Blk.ne_ hb' hb hty)
 have hsz:(w.setCell ⟨g,k,none⟩ (.bool b)).heap.size=w.heap.size:=by simp [World.setCell]
 refine ⟨by rw [hsz];exact h.hB,by rw [hsz];exact h.hS,(hne gm _ _ h.mz (by decide)).trans h.mz,h.gm0,?_,?_,?_,fun j hj=>?_,fun j hj=>?_⟩
 ·obtain ⟨cs',hb'⟩:=h.dr.blk;obtain ⟨h0,v,k',l,h1,h2,h3⟩:=h.dr;refine ⟨h0,v,k',l,(hne gd _ _ hb' (by decide)).trans h1,?_,h3⟩
  exact h2.keep fun b' hb'' hlt=>Below.heap_setCell w ⟨g,k,none⟩ _ b' (by
   show b'≠g;omega)
 ·exact zaj h.F fun g' hg'=>by
   obtain ⟨hl,⟨rfl,_⟩ | ⟨g2,cap,cur,rfl,h4,h5,h6⟩⟩:=h.F
   ·cases hg'
   ·have:g2=g':=by simpa [Value.ownBlock] using hg'
    subst this;exact hne g2 _ _ h5 (by decide)
 ·exact zaj h.T fun g' hg'=>by
   obtain ⟨hl,⟨rfl,_⟩ | ⟨g2,cap,cur,rfl,h4,h5,h6⟩⟩:=h.T
   ·cases hg'
   ·have:g2=g':=by simpa [Value.ownBlock] using hg'
    subst this;exact hne g2 _ _ h5 (by decide)
 ·obtain ⟨u,h1,h2⟩:=h.fd j hj;exact ⟨u,h1,h2.store _ rfl b⟩
 ·obtain ⟨s,u1,u2,h1,h2,h3,h4⟩:=h.td j hj;exact ⟨s,u1,u2,h1,h2,h3,h4.keep (fun g' cs' _ hb'=>hne g' _ cs' hb' (by decide)) (Nat.le_refl _)⟩
theorem MS.addT (h:MS B w S gm gd W H L n tF tT vF vU vT fs ts) {s:ByteArray} {u1 u2 vT':Value} {w5:World} {o:Obj} (hd:TaskD w B S n u1 u2) (ho:w5.ownsRow B 56 3 vT' (tT+1) (ts++[.string s,u1,u2])) (hg:(w.alloc o).grownBy w5 vT.ownBlock):
  MS B (w5.setCell ⟨gm,5,none⟩ vT') S gm gd W H L n tF (tT+1) vF vU vT' fs (ts++[.string s,u1,u2])∧
   (∀g ty cs,Blk w g ty cs→ty≠56→ty≠32→(w5.setCell ⟨gm,5,none⟩ vT').heap[g]?=w.heap[g]?)∧Below B w (w5.setCell ⟨gm,5,none⟩ vT'):=by
 have h1:∀g ty cs,Blk w g ty cs→ty≠56→w5.heap[g]?=w.heap[g]?:=fun g ty cs hb hty=>(hg.block g (by have:=zb hb;simp;omega) (fun e=>zj h.T hb (Ne.symm hty) e.symm)).trans (Below.heap_alloc _ _ _ (zb hb))
 have hm5:Blk w5 gm 32 #[.int .i64 W,.int .i64 H,.int .i64 L,vF,vU,vT]:=(h1 gm _ _ h.mz (by decide)).trans h.mz;have h2:∀g ty cs,Blk w g ty cs→ty≠56→ty≠32→(w5.setCell ⟨gm,5,none⟩ vT').heap[g]?=w.heap[g]?:=fun g ty cs hb hty hty2=>(Below.heap_setCell w5 ⟨gm,5,none⟩ _ g (Blk.ne_ hb h.mz hty2)).trans (h1 g ty cs hb hty)
 have hsz:w.heap.size≤(w5.setCell ⟨gm,5,none⟩ vT').heap.size:=by have:=hg.size;simp [World.setCell] at this⊢;omega
 have hbel:Below B w (w5.setCell ⟨gm,5,none⟩ vT'):=by
  have h3:Below B w (w.alloc o):=(Below.refl B w).alloc h.hB _;have h4:Below B w w5:=h3.grown hg (by simp;have:=h.hB;omega) (fun k hk=>(h.T.lt k hk).1);exact h4.setCell (p:=⟨gm,5,none⟩) h.gm0 _
 refine ⟨⟨Nat.le_trans h.hB hsz,Nat.le_trans h.hS hsz,hm5.set (k:=5) vT',h.gm0,?_,?_,?_,fun j hj=>?_,fun j hj=>?_⟩,h2,hbel⟩
 ·obtain ⟨cs,hb⟩:=h.dr.blk;exact h.dr.keep hbel (h2 gd _ _ hb (by decide) (by decide))
 ·exact zaj h.F fun g hg'=>by
   obtain ⟨hl,⟨e,_⟩ | ⟨g2,cap,cur,e,h4,h5,h6⟩⟩:=h.F
   ·rw [e] at hg';cases hg'
   ·rw [e] at hg';have:g2=g:=by simpa [Value.ownBlock] using hg'
    subst this;exact h2 g2 _ _ h5 (by decide) (by decide)
 ·exact zaj ho fun g hg'=>Below.heap_setCell w5 ⟨gm,5,none⟩ _ g (fun e=>by
   have e':g=gm:=e;subst e';exact zj ho hm5 (by decide) hg')
 ·obtain ⟨u,h3,h4⟩:=h.fd j hj;exact ⟨u,h3,h4.keep (fun g cs _ hb=>h2 g _ cs hb (by decide) (by decide)) (Nat.le_refl _)⟩
 ·have hlen:ts.length=tT*3:=h.T.1;have hkp:∀{a b:Value},TaskD w B S n a b→TaskD (w5.setCell ⟨gm,5,none⟩ vT') B S n a b:=fun hh=>hh.keep (fun g cs _ hb=>h2 g _ cs hb (by decide) (by decide)) (Nat.le_refl _)
  rcases Nat.lt_or_ge j tT with hj2 | hj2
  ·obtain ⟨s',a,b,h3,h4,h5,h6⟩:=h.td j hj2;exact ⟨s',a,b,by rw [List.getElem?_append_left (by omega)];exact h3,by rw [List.getElem?_append_left (by omega)];exact h4,by rw [List.getElem?_append_left (by omega)];exact h5,hkp h6⟩
  ·have hjt:j=tT:=by omega
   subst hjt;refine ⟨s,u1,u2,?_,?_,?_,hkp hd⟩
   ·rw [List.getElem?_append_right (by omega),show j*3 - ts.length=0 from by omega];rfl
   ·rw [List.getElem?_append_right (by omega),show j*3+1 - ts.length=1 from by omega];rfl
   ·rw [List.getElem?_append_right (by omega),show j*3+2 - ts.length=2 from by omega];rfl
theorem MS.addF (h:MS B w S gm gd W H L n tF tT vF vU vT fs ts) {u vF':Value} {w5:World} {o:Obj} (hd:BoolD w B S n u) (ho:w5.ownsRow B 29 1 vF' (tF+1) (fs++[u])) (hg:(w.alloc o).grownBy w5 vF.ownBlock):
  MS B (w5.setCell ⟨gm,3,none⟩ vF') S gm gd W H L n (tF+1) tT vF' vU vT (fs++[u]) ts∧Below B w (w5.setCell ⟨gm,3,none⟩ vF'):=by
 have h1:∀g ty cs,Blk w g ty cs→ty≠29→w5.heap[g]?=w.heap[g]?:=fun g ty cs hb hty=>(hg.block g (by have:=zb hb;simp;omega) (fun e=>zj h.F hb (Ne.symm hty) e.symm)).trans (Below.heap_alloc _ _ _ (zb hb))
 have hm5:Blk w5 gm 32 #[.int .i64 W,.int .i64 H,.int .i64 L,vF,vU,vT]:=(h1 gm _ _ h.mz (by decide)).trans h.mz;have h2:∀g ty cs,Blk w g ty cs→ty≠29→ty≠32→(w5.setCell ⟨gm,3,none⟩ vF').heap[g]?=w.heap[g]?:=fun g ty cs hb hty hty2=>(Below.heap_setCell w5 ⟨gm,3,none⟩ _ g (Blk.ne_ hb h.mz hty2)).trans (h1 g ty cs hb hty)
 have hsz:w.heap.size≤(w5.setCell ⟨gm,3,none⟩ vF').heap.size:=by have:=hg.size;simp [World.setCell] at this⊢;omega
 have hbel:Below B w (w5.setCell ⟨gm,3,none⟩ vF'):=by
  have h3:Below B w (w.alloc o):=(Below.refl B w).alloc h.hB _;have h4:Below B w w5:=h3.grown hg (by simp;have:=h.hB;omega) (fun k hk=>(h.F.lt k hk).1);exact h4.setCell (p:=⟨gm,3,none⟩) h.gm0 _
 refine ⟨⟨Nat.le_trans h.hB hsz,Nat.le_trans h.hS hsz,hm5.set (k:=3) vF',h.gm0,?_,?_,?_,fun j hj=>?_,fun j hj=>?_⟩,hbel⟩
 ·obtain ⟨cs,hb⟩:=h.dr.blk;exact h.dr.keep hbel (h2 gd _ _ hb (by decide) (by decide))
 ·exact zaj ho fun g hg'=>Below.heap_setCell w5 ⟨gm,3,none⟩ _ g (fun e=>by
   have e':g=gm:=e;subst e';exact zj ho hm5 (by decide) hg')
 ·exact zaj h.T fun g hg'=>by
   obtain ⟨hl,⟨e,_⟩ | ⟨g2,cap,cur,e,h4,h5,h6⟩⟩:=h.T
   ·rw [e] at hg';cases hg'
   ·rw [e] at hg';have:g2=g:=by simpa [Value.ownBlock] using hg'
    subst this;exact h2 g2 _ _ h5 (by decide) (by decide)
 ·have hlen:fs.length=tF:=by have:=h.F.1;omega
  have hkp:∀{a:Value},BoolD w B S n a→BoolD (w5.setCell ⟨gm,3,none⟩ vF') B S n a:=fun hh=>hh.keep (fun g cs _ hb=>h2 g _ cs hb (by decide) (by decide)) (Nat.le_refl _)
  rcases Nat.lt_or_ge j tF with hj2 | hj2
  ·obtain ⟨a,h3,h4⟩:=h.fd j hj2;exact ⟨a,by rw [List.getElem?_append_left (by omega)];exact h3,hkp h4⟩
  ·have hjt:j=tF:=by omega
   subst hjt;exact ⟨u,by rw [List.getElem?_append_right (by omega),show j - fs.length=0 from by omega];rfl,hkp hd⟩
 ·obtain ⟨s,u1,u2,h3,h4,h5,h6⟩:=h.td j hj;exact ⟨s,u1,u2,h3,h4,h5,h6.keep (fun g cs _ hb=>h2 g _ cs hb (by decide) (by decide)) (Nat.le_refl _)⟩
theorem MS.addU (h:MS B w S gm gd W H L n tF tT vF vU vT fs ts) {x:Bool} {us:List Bool} {w5:World} {o:Obj} (hBS:B≤S) (hu:OwnB w S vU us) (ho:w5.ownsRow S 4 1 vU' (us.length+1) (us.map Value.bool++[.bool x])) (hg:(w.alloc o).grownBy w5 vU.ownBlock):
  MS B (w5.setCell ⟨gm,4,none⟩ vU') S gm gd W H L n tF tT vF vU' vT fs ts∧OwnB (w5.setCell ⟨gm,4,none⟩ vU') S vU' (us++[x])∧Below B w (w5.setCell ⟨gm,4,none⟩ vU'):=by
 have h1:∀g ty cs,Blk w g ty cs→ty≠4∨g<S→w5.heap[g]?=w.heap[g]?:=fun g ty cs hb hty=>(hg.block g (by have:=zb hb;simp;omega) (fun e=>by
  rcases hty with hty | hty
  ·exact zj hu hb (Ne.symm hty) e.symm
  ·have:=(World.ownsRow.lt hu g e.symm).1;omega)).trans (Below.heap_alloc _ _ _ (zb hb))
 have hm5:Blk w5 gm 32 #[.int .i64 W,.int .i64 H,.int .i64 L,vF,vU,vT]:=(h1 gm _ _ h.mz (.inl (by decide))).trans h.mz;have h2:∀g ty cs,Blk w g ty cs→ty≠4∨g<S→ty≠32→(w5.setCell ⟨gm,4,none⟩ vU').heap[g]?=w.heap[g]?:=fun g ty cs hb hty hty2=>(Below.heap_setCell w5 ⟨gm,4,none⟩ _ g (Blk.ne_ hb h.mz hty2)).trans (h1 g ty cs hb hty)
 have hsz:w.heap.size≤(w5.setCell ⟨gm,4,none⟩ vU').heap.size:=by have:=hg.size;simp [World.setCell] at this⊢;omega
 have hbel:Below B w (w5.setCell ⟨gm,4,none⟩ vU'):=by
  have h3:Below B w (w.alloc o):=(Below.refl B w).alloc h.hB _;have h4:Below B w w5:=h3.grown hg (by simp;have:=h.hB;omega) (fun k hk=>by have:=(World.ownsRow.lt hu k hk).1;omega);exact h4.setCell (p:=⟨gm,4,none⟩) h.gm0 _
 have hrow:∀{e:TypeId} {sz k:Nat} {v:Value} {xs:List Value},w.ownsRow B e sz v k xs→e≠4→e≠32→(w5.setCell ⟨gm,4,none⟩ vU').ownsRow B e sz v k xs:=fun hr he he2=>zaj hr fun g hg'=>by
  obtain ⟨hl,⟨e,_⟩ | ⟨g2,cap,cur,e,h4,h5,h6⟩⟩:=hr
  ·rw [e] at hg';cases hg'
  ·rw [e] at hg';have:g2=g:=by simpa [Value.ownBlock] using hg'
   subst this;exact h2 g2 _ _ h5 (.inl he) he2
 refine ⟨⟨Nat.le_trans h.hB hsz,Nat.le_trans h.hS hsz,hm5.set (k:=4) vU',h.gm0,?_,hrow h.F (by decide) (by decide),hrow h.T (by decide) (by decide),fun j hj=>?_,fun j hj=>?_⟩,?_,hbel⟩
 ·obtain ⟨cs,hb⟩:=h.dr.blk;exact h.dr.keep hbel (h2 gd _ _ hb (.inl (by decide)) (by decide))
 ·obtain ⟨u,h3,h4⟩:=h.fd j hj;exact ⟨u,h3,h4.keep (fun g cs hgS hb=>h2 g _ cs hb (.inr hgS) (by decide)) (Nat.le_refl _)⟩
 ·obtain ⟨s,u1,u2,h3,h4,h5,h6⟩:=h.td j hj;exact ⟨s,u1,u2,h3,h4,h5,h6.keep (fun g cs _ hb=>h2 g _ cs hb (.inl (by decide)) (by decide)) (Nat.le_refl _)⟩
 ·unfold OwnB;rw [List.length_append,List.length_singleton,List.map_append]
  exact zaj ho fun g hg'=>Below.heap_setCell w5 ⟨gm,4,none⟩ _ g (fun e=>by
   have e':g=gm:=e;subst e';exact zj ho hm5 (by decide) hg')
end
structure R1 (B:Nat) (w:World) (S ge gt n:Nat) (s:ByteArray) (u1 u2:Value) (l1 l2:List Int):Prop where
 hB:B≤S
 hS:S≤w.heap.size
 dr:zR B w ge
 hge:S≤ge
 tk:Blk w gt 56 #[.string s,u1,u2]
 hgt:S≤gt
 o1:zy w S u1 l1
 o2:zy w S u2 l2
 ne:u1.ownBlock=none∨u1.ownBlock≠u2.ownBlock
 e1:l1≠[]
 e2:l2≠[]
 rg:∀x,x∈l1∨x∈l2→0≤x∧x<(n:Int)
section
variable {B:Nat} {w w':World} {S ge gt n:Nat} {s:ByteArray} {u1 u2:Value} {l1 l2:List Int}
theorem R1.keep (h:R1 B w S ge gt n s u1 u2 l1 l2) (hE:Below B w w') (hk:∀g ty cs,Blk w g ty cs→ty=108∨ty=56∨ty=3→w'.heap[g]?=w.heap[g]?):R1 B w' S ge gt n s u1 u2 l1 l2:=by
 obtain ⟨cs,hb⟩:=h.dr.blk;exact ⟨h.hB,Nat.le_trans h.hS hE.size,h.dr.keep hE (hk ge _ _ hb (.inl rfl)),h.hge,(hk gt _ _ h.tk (.inr (.inl rfl))).trans h.tk,h.hgt,zbl h.o1 (fun g cs _ hb=>hk g _ cs hb (.inr (.inr rfl))),zbl h.o2 (fun g cs _ hb=>hk g _ cs hb (.inr (.inr rfl))),h.ne,h.e1,h.e2,h.rg⟩
theorem R1.ext (h:R1 B w S ge gt n s u1 u2 l1 l2) (hE:Ext w w'):R1 B w' S ge gt n s u1 u2 l1 l2:=
 h.keep (hE.mono (Nat.le_trans h.hB h.hS)) (fun g _ _ hb _=>hE.block g (zb hb))
theorem R1.drawn (h:R1 B w S ge gt n s u1 u2 l1 l2) (hd:zR B w' ge) (hg:w.grownBy w' (some ge)):R1 B w' S ge gt n s u1 u2 l1 l2:=by
 obtain ⟨cs,hb⟩:=h.dr.blk
 have hne:∀g ty cs',Blk w g ty cs'→ty≠108→w'.heap[g]?=w.heap[g]?:=fun g ty cs' hb' hty=>hg.block g (zb hb') (fun e=>by
  injection e with e;exact Blk.ne_ hb' hb hty e)
 exact ⟨h.hB,Nat.le_trans h.hS hg.size,hd,h.hge,(hne gt _ _ h.tk (by decide)).trans h.tk,h.hgt,zbl h.o1 (fun g cs _ hb=>hne g _ cs hb (by decide)),zbl h.o2 (fun g cs _ hb=>hne g _ cs hb (by decide)),h.ne,h.e1,h.e2,h.rg⟩
theorem R1.drawnExt {wR:World} (h:R1 B w wR.heap.size ge gt n s u1 u2 l1 l2) (hE:Ext wR w) (hg:w.grownBy w' (some ge)):Ext wR w':=
 Below.grown hE hg hE.size (fun k hk=>by injection hk with hk;have:=h.hge;omega)
theorem R1.add1 (h:R1 B w S ge gt n s u1 u2 l1 l2) {u1':Value} {x:Int} {w5:World} {o:Obj} (hx:0≤x∧x<(n:Int)) (ho:w5.ownsRow S 3 1 u1' (l1.length+1) (l1.map (Value.int .i64)++[.int .i64 x])) (hg:(w.alloc o).grownBy w5 u1.ownBlock)
  (hv:u1'.ownBlock=u1.ownBlock∨u1'.ownBlock=some (w.heap.size+1)):R1 B (w5.setCell ⟨gt,1,none⟩ u1') S ge gt n s u1' u2 (l1++[x]) l2∧Below S w (w5.setCell ⟨gt,1,none⟩ u1'):=by
 obtain ⟨cs,hb⟩:=h.dr.blk;have h1:∀g ty cs,Blk w g ty cs→u1.ownBlock≠some g→w5.heap[g]?=w.heap[g]?:=fun g ty cs hb hne=>(hg.block g (by have:=zb hb;simp;omega) (fun e=>hne e.symm)).trans (Below.heap_alloc _ _ _ (zb hb))
 have ht5:Blk w5 gt 56 #[.string s,u1,u2]:=(h1 gt _ _ h.tk (zj h.o1 h.tk (by decide))).trans h.tk;have h2:∀g ty cs,Blk w g ty cs→u1.ownBlock≠some g→ty≠56→(w5.setCell ⟨gt,1,none⟩ u1').heap[g]?=w.heap[g]?:=fun g ty cs hb hne hty=>(Below.heap_setCell w5 ⟨gt,1,none⟩ _ g (Blk.ne_ hb h.tk hty)).trans (h1 g ty cs hb hne)
 have hsz:w.heap.size≤(w5.setCell ⟨gt,1,none⟩ u1').heap.size:=by have:=hg.size;simp [World.setCell] at this⊢;omega
 have hbel:Below S w (w5.setCell ⟨gt,1,none⟩ u1'):=by
  have h3:Below S w (w.alloc o):=(Below.refl S w).alloc h.hS _;have h4:Below S w w5:=h3.grown hg (by simp;have:=h.hS;omega) (fun k hk=>(World.ownsRow.lt h.o1 k hk).1);exact h4.setCell (p:=⟨gt,1,none⟩) h.hgt _
 refine ⟨⟨h.hB,Nat.le_trans h.hS hsz,h.dr.keep (hbel.mono h.hB) (h2 ge _ _ hb (zj h.o1 hb (by decide)) (by decide)),h.hge,ht5.set (k:=1) u1',h.hgt,?_,?_,?_,by simp,h.e2,?_⟩,hbel⟩
 ·show World.ownsRow _ _ _ _ _ (l1++[x]).length _;rw [List.length_append,List.length_singleton,List.map_append]
  exact zaj ho fun g hg'=>Below.heap_setCell w5 ⟨gt,1,none⟩ _ g (fun e=>by
   have e':g=gt:=e;subst e';exact zj ho ht5 (by decide) hg')
 ·exact zbl h.o2 (fun g cs hg' hb'=>h2 g _ cs hb' (fun e=>by
   rcases h.ne with hn | hn
   ·rw [hn] at e;cases e
   ·exact hn (e.trans hg'.symm)) (by decide))
 ·right
  rcases hv with hv | hv
  ·rw [hv];rcases h.ne with hn | hn
   ·rw [hn] at hv;obtain ⟨g,c,e,_,_⟩:=World.ownsRow.form ho (by omega);rw [e] at hv;cases hv
   ·exact hn
  ·rw [hv];intro e;have:=(World.ownsRow.lt h.o2 _ e.symm).2;omega
 ·intro y hy;rcases hy with hy | hy
  ·rcases List.mem_append.1 hy with hy | hy
   ·exact h.rg y (.inl hy)
   ·rw [List.mem_singleton] at hy;rw [hy];exact hx
  ·exact h.rg y (.inr hy)
theorem R1.add2 (h:R1 B w S ge gt n s u1 u2 l1 l2) {u2':Value} {x:Int} {w5:World} {o:Obj} (hx:0≤x∧x<(n:Int)) (ho:w5.ownsRow S 3 1 u2' (l2.length+1) (l2.map (Value.int .i64)++[.int .i64 x])) (hg:(w.alloc o).grownBy w5 u2.ownBlock)
  (hv:u2'.ownBlock=u2.ownBlock∨u2'.ownBlock=some (w.heap.size+1)):R1 B (w5.setCell ⟨gt,2,none⟩ u2') S ge gt n s u1 u2' l1 (l2++[x])∧Below S w (w5.setCell ⟨gt,2,none⟩ u2'):=by
 obtain ⟨cs,hb⟩:=h.dr.blk;have h1:∀g ty cs,Blk w g ty cs→u2.ownBlock≠some g→w5.heap[g]?=w.heap[g]?:=fun g ty cs hb hne=>(hg.block g (by have:=zb hb;simp;omega) (fun e=>hne e.symm)).trans (Below.heap_alloc _ _ _ (zb hb))
 have ht5:Blk w5 gt 56 #[.string s,u1,u2]:=(h1 gt _ _ h.tk (zj h.o2 h.tk (by decide))).trans h.tk;have h2:∀g ty cs,Blk w g ty cs→u2.ownBlock≠some g→ty≠56→(w5.setCell ⟨gt,2,none⟩ u2').heap[g]?=w.heap[g]?:=fun g ty cs hb hne hty=>(Below.heap_setCell w5 ⟨gt,2,none⟩ _ g (Blk.ne_ hb h.tk hty)).trans (h1 g ty cs hb hne)
 have hsz:w.heap.size≤(w5.setCell ⟨gt,2,none⟩ u2').heap.size:=by have:=hg.size;simp [World.setCell] at this⊢;omega
 have hbel:Below S w (w5.setCell ⟨gt,2,none⟩ u2'):=by
  have h3:Below S w (w.alloc o):=(Below.refl S w).alloc h.hS _;have h4:Below S w w5:=h3.grown hg (by simp;have:=h.hS;omega) (fun k hk=>(World.ownsRow.lt h.o2 k hk).1);exact h4.setCell (p:=⟨gt,2,none⟩) h.hgt _
 refine ⟨⟨h.hB,Nat.le_trans h.hS hsz,h.dr.keep (hbel.mono h.hB) (h2 ge _ _ hb (zj h.o2 hb (by decide)) (by decide)),h.hge,ht5.set (k:=2) u2',h.hgt,?_,?_,?_,h.e1,by simp,?_⟩,hbel⟩
 ·exact zbl h.o1 (fun g cs hg' hb'=>h2 g _ cs hb' (fun e=>by
   rcases h.ne with hn | hn
   ·rw [hn] at hg';cases hg'
   ·exact hn (hg'.trans e.symm)) (by decide))
 ·show World.ownsRow _ _ _ _ _ (l2++[x]).length _;rw [List.length_append,List.length_singleton,List.map_append]
  exact zaj ho fun g hg'=>Below.heap_setCell w5 ⟨gt,2,none⟩ _ g (fun e=>by
   have e':g=gt:=e;subst e';exact zj ho ht5 (by decide) hg')
 ·rcases hv with hv | hv
  ·rw [hv];exact h.ne
  ·by_cases h0:u1.ownBlock=none
   ·exact .inl h0
   ·right
    rw [hv];intro e;have:=(World.ownsRow.lt h.o1 _ e).2;omega
 ·intro y hy;rcases hy with hy | hy
  ·exact h.rg y (.inl hy)
  ·rcases List.mem_append.1 hy with hy | hy
   ·exact h.rg y (.inr hy)
   ·rw [List.mem_singleton] at hy;rw [hy];exact hx
theorem R1.taskD (h:R1 B w S ge gt n s u1 u2 l1 l2) (k1:l1.length≤2) (k2:l2.length≤2):TaskD w B w.heap.size n u1 u2:=
 ⟨l1,l2,World.ownsRow.mono h.o1 h.hB,World.ownsRow.mono h.o2 h.hB,⟨h.e1,h.e2⟩,⟨k1,k2⟩,h.rg,fun g hg=>by
  rcases hg with hg | hg
  ·exact (World.ownsRow.lt h.o1 g hg).2
  ·exact (World.ownsRow.lt h.o2 g hg).2⟩
end
theorem OwnB.app {w5:World} {S:Nat} {v':Value} {l:List Bool} {x:Bool} (ho:w5.ownsRow S 4 1 v' (l.length+1) (l.map Value.bool++[.bool x])):OwnB w5 S v' (l++[x]):=by
 unfold OwnB;rw [List.length_append,List.length_singleton,List.map_append];exact ho
theorem R1.grownB {B:Nat} {w w5:World} {S S2 ge gt n:Nat} {s:ByteArray} {u1 u2 v:Value} {l1 l2:List Int} {l:List Bool} {o:Obj} (h:R1 B w S ge gt n s u1 u2 l1 l2) (hv:OwnB w S2 v l) (hS:S≤S2) (hg:(w.alloc o).grownBy w5 v.ownBlock):R1 B w5 S ge gt n s u1 u2 l1 l2∧Below S w w5:=by
 have hbel:Below S w w5:=by
  have h3:Below S w (w.alloc o):=(Below.refl S w).alloc h.hS _;exact h3.grown hg (by simp;have:=h.hS;omega) (fun k hk=>Nat.le_trans hS (World.ownsRow.lt hv k hk).1)
 refine ⟨h.keep (hbel.mono h.hB) fun g ty cs hb hty=>?_,hbel⟩;exact (hg.block g (by have:=zb hb;simp;omega) (fun e=>zj hv hb (by rcases hty with rfl | rfl | rfl <;> decide) e.symm)).trans (Below.heap_alloc _ _ _ (zb hb))
theorem cells3n (w:World) (a b c:Value) (t:TypeId):∀j u,[a,b,c][j]?=some u→(w.alloc (.cells #[a,b,c] t)).cell? ((⟨w.heap.size,0,none⟩:Addr).add j)=some u:=by
 intro j u hj;have hb:Blk (w.alloc (.cells #[a,b,c] t)) w.heap.size t #[a,b,c]:=Blk.new _ _ _ rfl
 match j,hj with
 | 0,hj=>exact hb.cell (k:=0) hj
 | 1,hj=>exact hb.cell (k:=1) hj
 | 2,hj=>exact hb.cell (k:=2) hj
section
variable {B:Nat} {w:World} {S S2 gm gd ge gt:Nat} {W H L:Int} {n t:Nat} {vF vU vT vf:Value} {fs ts:List Value} {s:ByteArray} {u1 u2:Value} {l1 l2:List Int} {lf:List Bool}
theorem MS.end1 (h:MS B w w.heap.size gm gd W H L n t t vF vU vT fs ts) (hr:R1 B w S ge gt n s u1 u2 l1 l2) (k1:l1.length≤2) (k2:l2.length≤2) (hO:OwnB w S2 vf lf) {vT':Value} {w9:World} {o:Obj} (ho:w9.ownsRow B 56 3 vT' (t+1) (ts++[.string s,u1,u2])) (hg:(w.alloc o).grownBy w9 vT.ownBlock):
  MS B (w9.setCell ⟨gm,5,none⟩ vT') w.heap.size gm gd W H L n t (t+1) vF vU vT' fs (ts++[.string s,u1,u2])∧OwnB (w9.setCell ⟨gm,5,none⟩ vT') S2 vf lf∧Below B w (w9.setCell ⟨gm,5,none⟩ vT'):=by
 obtain ⟨h1,h2,h3⟩:=h.addT (hr.taskD k1 k2) ho hg;refine ⟨h1,zaj hO fun g hg'=>?_,h3⟩;obtain ⟨hl,⟨e,_⟩ | ⟨g2,cap,cur,e,h4,h5,h6⟩⟩:=hO
 ·rw [e] at hg';cases hg'
 ·rw [e] at hg';have:g2=g:=by simpa [Value.ownBlock] using hg'
  subst this;exact h2 g2 _ _ h5 (by decide) (by decide)
theorem MS.end2 (h:MS B w S gm gd W H L n t (t+1) vF vU vT fs ts) (hO:OwnB w S2 vf lf) (hlen:lf.length=n) (hB2:B≤S2) (hlt:∀g,vf.ownBlock=some g→g<S) {vF':Value} {w9:World} {o:Obj} (ho:w9.ownsRow B 29 1 vF' (t+1) (fs++[vf])) (hg:(w.alloc o).grownBy w9 vF.ownBlock):
  MS B (w9.setCell ⟨gm,3,none⟩ vF') (w9.setCell ⟨gm,3,none⟩ vF').heap.size gm gd W H L n (t+1) (t+1) vF' vU vT (fs++[vf]) ts∧Below B w (w9.setCell ⟨gm,3,none⟩ vF'):=by
 obtain ⟨h1,h2⟩:=h.addF ⟨lf,World.ownsRow.mono hO hB2,hlen,hlt⟩ ho hg;exact ⟨h1.ext (Ext.refl _),h2⟩
end
theorem hasB {w:World} {B:Nat} {u:Value} {l:List Int} (k:Int) (o:zy w B u l) (hl:l.length≤1000):∃b,∀W,Ext w W→Calls Tryz.prog 12 #[u,.int .i64 k] W fun e w'=>e=.returned (.bool b)∧W=w':=
 ⟨_,fun W hE=>zE k W (zf.below (Row.of_own o) hE) (by omega)⟩
theorem own_blkB {w:World} {B n g c:Nat} {e:TypeId} {sz:Nat} {xs:List Value} (h:w.ownsRow B e sz (.slice (some ⟨g,0,none⟩) n c) n xs):∃cs,Blk w g e cs:=by
 obtain ⟨_,⟨e,_⟩ | ⟨g2,cap,cur,e,_,h5,_⟩⟩:=h
 ·cases e
 ·injection e with e _ _;injection e with e;injection e with e;subst e;exact ⟨cur,h5⟩
theorem MS.stored {B:Nat} {w1 w:World} {S gm gd g k:Nat} {W H L:Int} {n tF tT:Nat} {vF vU vT:Value} {fs ts:List Value} (h:MS B w S gm gd W H L n tF tT vF vU vT fs ts) (hE:Ext w1 w) (hB:B=w1.heap.size) (hb:∃cs,Blk w g 4 cs) (hg:B≤g) (b:Bool):
  MS B (w.drew.setCell ⟨g,k,none⟩ (.bool b)) (w.drew.setCell ⟨g,k,none⟩ (.bool b)).heap.size gm gd W H L n tF tT vF vU vT fs ts∧Ext w1 (w.drew.setCell ⟨g,k,none⟩ (.bool b)):=by
 obtain ⟨cs,hb⟩:=hb;have h1:=h.extS ((Ext.refl w).drew);have hb1:Blk w.drew g 4 cs:=hb;have h2:=h1.store (k:=k) hb1 hg b;exact ⟨h2.ext (Ext.refl _),hE.drew.setCell (p:=⟨g,k,none⟩) (by show w1.heap.size≤g;omega) _⟩
structure ElemI (t e:TypeId) (z:Value) (sz bytes:Nat):Prop where
 ht:Tryz.prog.underlying t=some (.slice e)
 hi:(Tryz.prog.info? e).map (fun i=>(i.zero,i.size,i.bytes))=some (some z,sz,bytes)
 hz:z.cells.size=sz
 h0:0<sz
theorem zcU {ok:Nat→Prop} (w:World) (base:Nat) (t ty e:TypeId) (z:Value) (sz bytes:Nat) (I:ElemI t e z sz bytes)
  (v:Value) (n:Nat) (xs:List Value) (hown:w.ownsRow base e sz v n xs) (u:Value) (m:Nat) (news:List Value) (hu:Row w ok sz u m news) (h1:∀u∈news,u.oneCell'=true)
  (h63:n+m≤maxLen) (hbytes:(n+m)*bytes≤140737488355328) (hbase:base≤w.heap.size):
  ∃v' w',(Builtin.append_ #[t,t] ty #[v,u]).run Tryz.prog w=.ok v' w'∧w'.ownsRow base e sz v' (n+m) (xs++news)∧w.grownBy w' v.ownBlock∧(v'.ownBlock=v.ownBlock∨v'.ownBlock=some w.heap.size):=by
 obtain ⟨i,hi,hz,hsize,hby⟩:=info_parts I.hi;have ht:=I.ht;have hzs:=I.hz;have hpos:=I.h0;obtain ⟨A,c,rfl,hc,hl,hcells⟩:=hu;rcases A with _ | a
 ·have hm:m=0:=by
   rcases Nat.eq_zero_or_pos m with h | h
   ·exact h
   ·obtain ⟨b,off,e,_⟩:=hcells h;cases e
  subst hm;have hn:news=[]:=List.eq_nil_of_length_eq_zero (by simpa using hl);subst hn;refine ⟨v,w,?_,by simpa using hown,⟨rfl,rfl,rfl,Nat.le_refl _,fun _ _ _=>rfl⟩,.inl rfl⟩;rcases hown.2 with ⟨rfl,rfl⟩ | ⟨g,cap,cur,rfl,hbg,hg,hnc,hcm,hcs,htake⟩
  ·simp [Builtin.append_,run_underlying ht,sizeOf,typeInfo,hi,hsize,Builtin.lenOf,Builtin.firstCells,loadCells,loadCellsFrom]
  ·have h:=run_append_room_src (P:=Tryz.prog) w t t ty e i ht hi g 0 n cap (.slice none 0 c) 0 [] (by rw [hsize];exact Src.ofNil w ht c) (by omega) (by simp) (by simp);rw [setCells_nil] at h;simpa using h
 ·rcases Nat.eq_zero_or_pos m with h0 | hmp
  ·subst h0;have hn:news=[]:=List.eq_nil_of_length_eq_zero (by simpa using hl);subst hn;obtain ⟨v',w',h1,h2,h3,h4,h5⟩:=run_append_own_at (P:=Tryz.prog) w base t ty e i z sz bytes ht hi hz hsize hby hzs hpos v n xs hown a 0 c [] (by simp) (by simp) (by simp) h63 hbytes hbase;exact ⟨v',w',h1,h2,h3,h5⟩
  ·obtain ⟨b,off,he,_,hc'⟩:=hcells hmp;injection he with he;subst he;obtain ⟨v',w',h1,h2,h3,h4,h5⟩:=run_append_own_at (P:=Tryz.prog) w base t ty e i z sz bytes ht hi hz hsize hby hzs hpos v n xs hown ⟨b,off,none⟩ m c news hl (fun j u hj=>by rw [Addr.add_lit];exact hc' j u hj) h1 h63 hbytes hbase;exact ⟨v',w',h1,h2,h3,h5⟩
theorem zbO {ok:Nat→Prop} {o:Oper} {a:Act} {K:Act→World→Prop} {Q:Exit→Act→World→Prop} (W:World) (s x:Operand) {t e:TypeId} {z:Value} {sz bytes:Nat} (I:ElemI t e z sz bytes)
  (ho:o.op=.call { callee:=.builtin .append,args:=#[s,x],argTypes:=#[t,t] }) (base n m:Nat) (l l2:List Value) (v u:Value) (hs:a.eval s=v) (hx:a.eval x=u)
  (hown:W.ownsRow base e sz v n l) (hu:Row W ok sz u m l2) (h1:∀u∈l2,u.oneCell'=true) (hbase:base≤W.heap.size) (h63:n+m≤maxLen) (hl:(n+m)*bytes≤140737488355328)
  (h:∀v' w',w'.ownsRow base e sz v' (n+m) (l++l2)→W.grownBy w' v.ownBlock→(v'.ownBlock=v.ownBlock∨v'.ownBlock=some W.heap.size)→K (a.put o.dst v') w'):Oper.wp Tryz.prog o a W K Q:=by
 obtain ⟨v',w',hr,h2,h3,h5⟩:=zcU (ok:=ok) W base t o.type e z sz bytes I v n l hown u m l2 hu h1 h63 hl hbase;unfold Oper.wp execOp;simp only [ho,resolve,invoke,builtin,Sem.run_bind,Sem.run_pure,Result.andThen_ok,List.map_toArray,List.map_cons,List.map_nil,hs,hx,hr];exact h v' w' h2 h3 h5
theorem wpList_append_row {ok:Nat→Prop} {ops:Array Oper} {rest:List Oper} {o:Oper} {a:Act} {Q:Exit→Act→World→Prop} (hgd:o.guard=none) (W:World) (s x:Operand) {t e:TypeId} {z:Value} {sz bytes:Nat} (I:ElemI t e z sz bytes)
  (ho:o.op=.call { callee:=.builtin .append,args:=#[s,x],argTypes:=#[t,t] }) (base n m:Nat) (l l2:List Value) (v u:Value) (hs:a.eval s=v) (hx:a.eval x=u)
  (hown:W.ownsRow base e sz v n l) (hu:Row W ok sz u m l2) (h1:∀u∈l2,u.oneCell'=true) (hbase:base≤W.heap.size) (h63:n+m≤maxLen) (hl:(n+m)*bytes≤140737488355328)
  (h:∀v' w',w'.ownsRow base e sz v' (n+m) (l++l2)→W.grownBy w' v.ownBlock→(v'.ownBlock=v.ownBlock∨v'.ownBlock=some W.heap.size)→wpList Tryz.prog ops Q rest (a.put o.dst v') w'):wpList Tryz.prog ops Q (o :: rest) a W:=by
 refine wpList_plain hgd fun K hK=>?_
 exact zbO W s x I ho base n m l l2 v u hs hx hown hu h1 hbase h63 hl fun v' w' h1 h2 h3=>hK _ _ (h v' w' h1 h2 h3)
theorem zbw {ok:Nat→Prop} {ops:Array Oper} {o:Oper} {a:Act} {K:Act→World→Prop} {Q:Exit→Act→World→Prop} {E:Prop} (hgd:o.guard=none) (W:World) (s x:Operand) {t e:TypeId} {z:Value} {sz bytes:Nat} (I:ElemI t e z sz bytes)
  (ho:o.op=.call { callee:=.builtin .append,args:=#[s,x],argTypes:=#[t,t] }) (base n m:Nat) (l l2:List Value) (v u:Value) (hs:a.eval s=v) (hx:a.eval x=u)
  (hown:W.ownsRow base e sz v n l) (hu:Row W ok sz u m l2) (h1:∀u∈l2,u.oneCell'=true) (hbase:base≤W.heap.size) (h63:n+m≤maxLen) (hl:(n+m)*bytes≤140737488355328)
  (h:∀v' w',w'.ownsRow base e sz v' (n+m) (l++l2)→W.grownBy w' v.ownBlock→(v'.ownBlock=v.ownBlock∨v'.ownBlock=some W.heap.size)→K (a.put o.dst v') w'):
  if Region.wanted o (yielded ops a.tmps)=true then Oper.wp Tryz.prog o a W K Q else E:=by
 have hw:Region.wanted o (yielded ops a.tmps)=true:=by simp [Region.wanted,hgd]
 rw [if_pos hw];exact zbO W s x I ho base n m l l2 v u hs hx hown hu h1 hbase h63 hl h
theorem eTask:ElemI 30 56 (.agg #[.string ⟨#[]⟩,.slice none 0 0,.slice none 0 0]) 3 64:=⟨Tryz.underlying30,Tryz.infoTask,rfl,by decide⟩
theorem eBools:ElemI 28 29 (.slice none 0 0) 1 24:=⟨Tryz.underlying28,Tryz.infoBools,rfl,by decide⟩
theorem eBool:ElemI 29 4 (.bool false) 1 1:=⟨Tryz.underlying29,Tryz.infoBool,rfl,by decide⟩
theorem eInt:ElemI 23 3 (.int .i64 0) 1 8:=⟨Tryz.underlying23,Tryz.infoInt,rfl,by decide⟩
theorem own_emptyT (W:World) (B:Nat) (e:TypeId) (sz:Nat) (hB:B≤W.heap.size):(W.alloc (.cells #[] e)).ownsRow B e sz (.slice (some ⟨W.heap.size,0,none⟩) 0 0) 0 []:=
 ⟨by simp,.inr ⟨W.heap.size,0,#[],rfl,hB,heap_alloc_new W _,Nat.le_refl _,by decide,by simp,by simp⟩⟩
end Go.Proofs.YthbjngbhbbkkgaaGreat
namespace Go.Proofs.YthbjngbhbbkkgaaGreat
open Go.RowKit
attribute [local go_sem ↓] Go.wp_at_zero Go.wp_at_succ
def TasksN (w:World) (ok:Nat→Prop) (v:Value) (l:List (List Int×List Int)) (ns:List ByteArray):Prop:=
 ns.length=l.length∧∃vs,Row w ok 3 v l.length vs∧∀(i:Nat) x s,l[i]?=some x→ns[i]?=some s→∃u1 u2,vs[i*3]?=some (.string s)∧vs[i*3+1]?=some u1∧vs[i*3+2]?=some u2∧zf w ok u1 x.1∧zf w ok u2 x.2
def MazeN (w:World) (ok:Nat→Prop) (v:Value) (m:MZ) (ns:List ByteArray):Prop:=
 ∃f u t,v=.agg #[.int .i64 m.w,.int .i64 m.h,.int .i64 m.l,f,u,t]∧zaG w ok f m.free∧zaQ w ok u m.up∧TasksN w ok t m.tasks ns
theorem TasksN.tasks {w:World} {ok:Nat→Prop} {v:Value} {l:List (List Int×List Int)} {ns:List ByteArray} (h:TasksN w ok v l ns):zbh w ok v l:=by
 obtain ⟨hn,vs,hr,he⟩:=h;refine ⟨vs,hr,fun i x hx=>?_⟩;obtain ⟨hi,-⟩:=List.getElem?_eq_some_iff.1 hx;obtain ⟨u1,u2,h0,h1,h2,i1,i2⟩:=he i x _ hx (List.getElem?_eq_getElem (by omega));exact ⟨_,u1,u2,h0,h1,h2,i1,i2⟩
theorem MazeN.maze {w:World} {ok:Nat→Prop} {v:Value} {m:MZ} {ns:List ByteArray} (h:MazeN w ok v m ns):zr w ok v m:=by
 obtain ⟨f,u,t,rfl,h1,h2,h3⟩:=h;exact ⟨f,u,t,rfl,h1,h2,h3.tasks⟩
theorem zbh.nets {w:World} {ok:Nat→Prop} {v:Value} {l:List (List Int×List Int)} (h:zbh w ok v l):∃ns,TasksN w ok v l ns:=by
 obtain ⟨vs,hr,he⟩:=h;refine ⟨(List.range l.length).map fun i=>match vs[i*3]? with | some (Value.string s)=>s | _=>(⟨#[]⟩:ByteArray),by simp,vs,hr,fun i x s hx hs=>?_⟩;obtain ⟨s',u1,u2,h0,h1,h2,i1,i2⟩:=he i x hx;rw [List.getElem?_map] at hs;obtain ⟨hi,-⟩:=List.getElem?_eq_some_iff.1 hx;rw [List.getElem?_range hi] at hs;simp only [Option.map_some,h0] at hs;injection hs with hs;subst hs;exact ⟨u1,u2,h0,h1,h2,i1,i2⟩
theorem zr.nets {w:World} {ok:Nat→Prop} {v:Value} {m:MZ} (h:zr w ok v m):∃ns,MazeN w ok v m ns:=by
 obtain ⟨f,u,t,rfl,h1,h2,h3⟩:=h;obtain ⟨ns,hn⟩:=h3.nets;exact ⟨ns,f,u,t,rfl,h1,h2,hn⟩
theorem TasksN.below {w w':World} {ok:Nat→Prop} {v:Value} {l:List (List Int×List Int)} {ns:List ByteArray} (h:TasksN w ok v l ns) (hE:Below w.heap.size w w'):TasksN w' ok v l ns:=by
 obtain ⟨hn,vs,hr,he⟩:=h;refine ⟨hn,vs,hr.below hE,fun i x s hx hs=>?_⟩;obtain ⟨u1,u2,h0,h1,h2,i1,i2⟩:=he i x s hx hs;exact ⟨u1,u2,h0,h1,h2,i1.below hE,i2.below hE⟩
theorem MazeN.keepW {w w':World} {ok ok':Nat→Prop} {v:Value} {m:MZ} {ns:List ByteArray} (h:MazeN w ok v m ns) (hk:zX ok w w') (hw:∀b,ok b→ok' b):MazeN w' ok' v m ns:=by
 obtain ⟨f,u,t,rfl,h1,h2,hn,vs,hr,he⟩:=h;refine ⟨f,u,t,rfl,(h1.keep hk).weaken hw,(h2.keep hk).weaken hw,hn,vs,(hr.keep hk).weaken hw,fun i x s hx hs=>?_⟩;obtain ⟨u1,u2,q0,q1,q2,i1,i2⟩:=he i x s hx hs;exact ⟨u1,u2,q0,q1,q2,(i1.keep hk).weaken hw,(i2.keep hk).weaken hw⟩
theorem MazeN.below {w w':World} {ok:Nat→Prop} {v:Value} {m:MZ} {ns:List ByteArray} (h:MazeN w ok v m ns) (hE:Below w.heap.size w w'):MazeN w' ok v m ns:=h.keepW (zX.of_below hE) (fun _ h=>h)
theorem zak {wr w':World} {B sz n:Nat} {e:TypeId} {v:Value} {xs:List Value} {r:Option Nat} (h:wr.ownsRow B e sz v n xs) (hg:wr.grownBy w' r) (hr:∀b,r=some b→∃t cs,Blk wr b t cs∧t≠e):w'.ownsRow B e sz v n xs:=by
 refine h.kept hg ?_;rcases h.2 with ⟨rfl,-⟩ | ⟨g,cap,cur,rfl,-,hh,-⟩
 ·exact .inl rfl
 ·right
  intro hc;obtain ⟨t,cs,hb,hne⟩:=hr g hc.symm;have hb':wr.heap[g]?=_:=hb;rw [hh] at hb';injection hb' with hb';injection hb' with _ e2 _;exact hne e2.symm
theorem own_blk {wr:World} {B sz n:Nat} {e:TypeId} {v:Value} {xs:List Value} (h:wr.ownsRow B e sz v n xs) {b:Nat} (hb:v.ownBlock=some b):∃cs,Blk wr b e cs∧B≤b:=by
 rcases h.2 with ⟨rfl,-⟩ | ⟨g,cap,cur,rfl,hg,hh,-⟩
 ·cases hb
 ·have:g=b:=by simpa [Value.ownBlock] using hb
  subst this;exact ⟨cur,hh,hg⟩
theorem grown_ext {w w':World} (h:Ext w w'):w.grownBy w' none:=⟨h.os,h.tape,h.output,h.size,fun i hi _=>h.block i hi⟩
theorem zb4 (w:World) (g k:Nat) (v:Value):w.grownBy (w.setCell ⟨g,k,none⟩ v) (some g):=⟨rfl,rfl,rfl,by simp,fun i _ hi=>Below.heap_setCell w ⟨g,k,none⟩ v i (fun e=>hi (by rw [e]))⟩
def zb2 (w:World) (B:Nat) (v:Value) (l:List Bool):Prop:=w.ownsRow B 4 1 v l.length (l.map Value.bool)
structure SubI (w0 wr:World) (g7:Nat) (W H L:Int) (up:List Bool) (bF vU bT vF vT:Value) (fs:List (List Bool)) (ts:List (List Int×List Int)) (nn:List ByteArray):Prop where
 ext:Ext w0 wr
 lo:w0.heap.size≤g7
 box:Blk wr g7 32 #[.int .i64 W,.int .i64 H,.int .i64 L,bF,vU,bT]
 up:zb2 wr w0.heap.size vU up
 fr:∃vs,wr.ownsRow w0.heap.size 29 1 vF fs.length vs∧∀(i:Nat) x,fs[i]?=some x→∃u,vs[i]?=some u∧zb2 wr w0.heap.size u x
 tk:∃vs,wr.ownsRow w0.heap.size 56 3 vT ts.length vs∧nn.length=ts.length∧∀(i:Nat) x s,ts[i]?=some x→nn[i]?=some s→∃u1 u2,vs[i*3]?=some (.string s)∧vs[i*3+1]?=some u1∧vs[i*3+2]?=some u2∧zy wr w0.heap.size u1 x.1∧zy wr w0.heap.size u2 x.2
section
variable {w0 wr w':World} {g7:Nat} {W H L:Int} {up:List Bool} {bF vU bT vF vT vT' vF':Value} {fs:List (List Bool)} {ts:List (List Int×List Int)} {nn:List ByteArray}
theorem SubI.each (h:SubI w0 wr g7 W H L up bF vU bT vF vT fs ts nn) {r:Option Nat} (hg:wr.grownBy w' r) (hr:∀b,r=some b→∃t cs,Blk wr b t cs∧t≠3∧t≠4):
  zb2 w' w0.heap.size vU up∧(∀{u:Value} {x:List Bool},zb2 wr w0.heap.size u x→zb2 w' w0.heap.size u x)∧∀{u:Value} {x:List Int},zy wr w0.heap.size u x→zy w' w0.heap.size u x:=by
 have h1:∀{u:Value} {x:List Bool},zb2 wr w0.heap.size u x→zb2 w' w0.heap.size u x:=fun hu=>zak hu hg fun b hb=>by obtain ⟨t,cs,h1,h2,h3⟩:=hr b hb;exact ⟨t,cs,h1,h3⟩
 exact ⟨h1 h.up,h1,fun hu=>zak hu hg fun b hb=>by obtain ⟨t,cs,h1,h2,h3⟩:=hr b hb;exact ⟨t,cs,h1,h2⟩⟩
theorem SubI.more (h:SubI w0 wr g7 W H L up bF vU bT vF vT fs ts nn) (hE:Ext wr w'):SubI w0 w' g7 W H L up bF vU bT vF vT fs ts nn:=by
 have hg:=grown_ext hE;obtain ⟨h1,h2,h3⟩:=h.each hg (fun b hb=>by cases hb);obtain ⟨vs,ho,he⟩:=h.fr;obtain ⟨us,hp,hn,hf⟩:=h.tk;refine ⟨h.ext.trans hE,h.lo,h.box.ext hE,h1,⟨vs,zak ho hg (fun b hb=>by cases hb),fun i x hx=>?_⟩,⟨us,zak hp hg (fun b hb=>by cases hb),hn,fun i x s hx hs=>?_⟩⟩
 ·obtain ⟨u,hu,hi⟩:=he i x hx;exact ⟨u,hu,h2 hi⟩
 ·obtain ⟨u1,u2,q0,q1,q2,i1,i2⟩:=hf i x s hx hs;exact ⟨u1,u2,q0,q1,q2,h3 i1,h3 i2⟩
theorem SubI.addT (h:SubI w0 wr g7 W H L up bF vU bT vF vT fs ts nn) {us:List Value} {x:List Int×List Int} {s:ByteArray} {u1 u2:Value} (hf:∀(i:Nat) x s,ts[i]?=some x→nn[i]?=some s→∃u1 u2,us[i*3]?=some (.string s)∧us[i*3+1]?=some u1∧us[i*3+2]?=some u2∧zy wr w0.heap.size u1 x.1∧zy wr w0.heap.size u2 x.2)
  (hn:nn.length=ts.length) (hul:us.length=ts.length*3) (hv:wr.ownsRow w0.heap.size 56 3 vT ts.length us) (h1:zy wr w0.heap.size u1 x.1) (h2:zy wr w0.heap.size u2 x.2) (ho:w'.ownsRow w0.heap.size 56 3 vT' (ts.length+1) (us++[.string s,u1,u2])) (hg:wr.grownBy w' vT.ownBlock):
  SubI w0 w' g7 W H L up bF vU bT vF vT' fs (ts++[x]) (nn++[s]):=by
 have hr:∀b,vT.ownBlock=some b→∃t cs,Blk wr b t cs∧t=56:=fun b hb=>by obtain ⟨cs,hc,-⟩:=own_blk hv hb;exact ⟨_,cs,hc,rfl⟩
 obtain ⟨k1,k2,k3⟩:=h.each hg (fun b hb=>by obtain ⟨t,cs,hc,rfl⟩:=hr b hb;exact ⟨_,cs,hc,by decide,by decide⟩);obtain ⟨vs,hof,he⟩:=h.fr;refine ⟨h.ext.grown hg h.ext.size (fun k hk=>by obtain ⟨cs,-,hc⟩:=own_blk hv hk;exact hc),h.lo,?_,k1,⟨vs,zak hof hg (fun b hb=>by obtain ⟨t,cs,hc,rfl⟩:=hr b hb;exact ⟨_,cs,hc,by decide⟩),fun i y hy=>?_⟩,⟨us++[.string s,u1,u2],by rw [List.length_append];exact ho,by simp [hn],fun i y s' hy hs=>?_⟩⟩
 ·refine (hg.block g7 (zb h.box) (fun e=>?_)).trans h.box;obtain ⟨t,cs,hc,rfl⟩:=hr g7 e.symm;exact Blk.ne_ hc h.box (by decide) rfl
 ·obtain ⟨u,hu,hi⟩:=he i y hy;exact ⟨u,hu,k2 hi⟩
 ·by_cases hi:i<ts.length
  ·rw [List.getElem?_append_left hi] at hy;rw [List.getElem?_append_left (by omega)] at hs;obtain ⟨u1',u2',q0,q1,q2,i1,i2⟩:=hf i y s' hy hs;exact ⟨u1',u2',by rw [List.getElem?_append_left (by omega)];exact q0,by rw [List.getElem?_append_left (by omega)];exact q1,by rw [List.getElem?_append_left (by omega)];exact q2,k3 i1,k3 i2⟩
  ·have hie:i=ts.length:=by
    obtain ⟨h,-⟩:=List.getElem?_eq_some_iff.1 hy;rw [List.length_append,List.length_singleton] at h;omega
   subst hie;rw [List.getElem?_append_right (Nat.le_refl _),Nat.sub_self] at hy;rw [List.getElem?_append_right (by omega),hn,Nat.sub_self] at hs;have e1:x=y:=by simpa using hy
   have e2:s=s':=by simpa using hs
   subst e1 e2;refine ⟨u1,u2,?_,?_,?_,k3 h1,k3 h2⟩
   ·rw [List.getElem?_append_right (by omega),show ts.length*3 - us.length=0 by omega];rfl
   ·rw [List.getElem?_append_right (by omega),show ts.length*3+1 - us.length=1 by omega];rfl
   ·rw [List.getElem?_append_right (by omega),show ts.length*3+2 - us.length=2 by omega];rfl
theorem SubI.addF (h:SubI w0 wr g7 W H L up bF vU bT vF vT fs ts nn) {vs:List Value} {x:List Bool} {u:Value} (he:∀(i:Nat) x,fs[i]?=some x→∃u,vs[i]?=some u∧zb2 wr w0.heap.size u x)
  (hul:vs.length=fs.length) (hv:wr.ownsRow w0.heap.size 29 1 vF fs.length vs) (h1:zb2 wr w0.heap.size u x) (ho:w'.ownsRow w0.heap.size 29 1 vF' (fs.length+1) (vs++[u])) (hg:wr.grownBy w' vF.ownBlock):
  SubI w0 w' g7 W H L up bF vU bT vF' vT (fs++[x]) ts nn:=by
 have hr:∀b,vF.ownBlock=some b→∃t cs,Blk wr b t cs∧t=29:=fun b hb=>by obtain ⟨cs,hc,-⟩:=own_blk hv hb;exact ⟨_,cs,hc,rfl⟩
 obtain ⟨k1,k2,k3⟩:=h.each hg (fun b hb=>by obtain ⟨t,cs,hc,rfl⟩:=hr b hb;exact ⟨_,cs,hc,by decide,by decide⟩);obtain ⟨us,hof,hn,hf⟩:=h.tk;refine ⟨h.ext.grown hg h.ext.size (fun k hk=>by obtain ⟨cs,-,hc⟩:=own_blk hv hk;exact hc),h.lo,?_,k1,⟨vs++[u],by rw [List.length_append];exact ho,fun i y hy=>?_⟩,⟨us,zak hof hg (fun b hb=>by obtain ⟨t,cs,hc,rfl⟩:=hr b hb;exact ⟨_,cs,hc,by decide⟩),hn,fun i y s hy hs=>?_⟩⟩
 ·refine (hg.block g7 (zb h.box) (fun e=>?_)).trans h.box;obtain ⟨t,cs,hc,rfl⟩:=hr g7 e.symm;exact Blk.ne_ hc h.box (by decide) rfl
 ·by_cases hi:i<fs.length
  ·rw [List.getElem?_append_left hi] at hy;obtain ⟨u',hu,hi'⟩:=he i y hy;exact ⟨u',by rw [List.getElem?_append_left (by omega)];exact hu,k2 hi'⟩
  ·have hie:i=fs.length:=by
    obtain ⟨h,-⟩:=List.getElem?_eq_some_iff.1 hy;rw [List.length_append,List.length_singleton] at h;omega
   subst hie;rw [List.getElem?_append_right (Nat.le_refl _),Nat.sub_self] at hy;have e1:x=y:=by simpa using hy
   subst e1;exact ⟨u,by rw [List.getElem?_append_right (by omega),hul,Nat.sub_self];rfl,k2 h1⟩
 ·obtain ⟨u1,u2,q0,q1,q2,i1,i2⟩:=hf i y s hy hs;exact ⟨u1,u2,q0,q1,q2,k3 i1,k3 i2⟩
theorem SubI.sto (h:SubI w0 wr g7 W H L up bF vU bT vF vT fs ts nn) {k:Nat} {v bF' bT':Value} (hb:(#[.int .i64 W,.int .i64 H,.int .i64 L,bF,vU,bT]:Array Value).setIfInBounds k v=#[.int .i64 W,.int .i64 H,.int .i64 L,bF',vU,bT']):SubI w0 (wr.setCell ⟨g7,k,none⟩ v) g7 W H L up bF' vU bT' vF vT fs ts nn:=by
 have hg:=zb4 wr g7 k v;have hr:∀b,some g7=some b→∃t cs,Blk wr b t cs∧t=32:=fun b hb=>by injection hb with hb;subst hb;exact ⟨_,_,h.box,rfl⟩
 obtain ⟨k1,k2,k3⟩:=h.each hg (fun b hb=>by obtain ⟨t,cs,hc,rfl⟩:=hr b hb;exact ⟨_,cs,hc,by decide,by decide⟩);obtain ⟨vs,ho,he⟩:=h.fr;obtain ⟨us,hp,hn,hf⟩:=h.tk;refine ⟨h.ext.setCell (p:=⟨g7,k,none⟩) h.lo _,h.lo,by have:=h.box.set (k:=k) v;rwa [hb] at this,k1,⟨vs,zak ho hg (fun b hb=>by obtain ⟨t,cs,hc,rfl⟩:=hr b hb;exact ⟨_,cs,hc,by decide⟩),fun i x hx=>?_⟩,⟨us,zak hp hg (fun b hb=>by obtain ⟨t,cs,hc,rfl⟩:=hr b hb;exact ⟨_,cs,hc,by decide⟩),hn,fun i x s hx hs=>?_⟩⟩
 ·obtain ⟨u,hu,hi⟩:=he i x hx;exact ⟨u,hu,k2 hi⟩
 ·obtain ⟨u1,u2,q0,q1,q2,i1,i2⟩:=hf i x s hx hs;exact ⟨u1,u2,q0,q1,q2,k3 i1,k3 i2⟩
theorem SubI.maze (h:SubI w0 wr g7 W H L up vF vU vT vF vT fs ts nn):MazeN wr (fun b=>w0.heap.size≤b) (.agg #[.int .i64 W,.int .i64 H,.int .i64 L,vF,vU,vT]) ⟨W,H,L,fs,up,ts⟩ nn:=by
 obtain ⟨vs,ho,he⟩:=h.fr;obtain ⟨us,hp,hn,hf⟩:=h.tk;refine ⟨_,_,_,rfl,⟨vs,Row.of_own ho,fun i x hx=>?_⟩,Row.of_own h.up,hn,us,Row.of_own hp,fun i x s hx hs=>?_⟩
 ·obtain ⟨u,hu,hi⟩:=he i x hx;exact ⟨u,hu,Row.of_own hi⟩
 ·obtain ⟨u1,u2,q0,q1,q2,i1,i2⟩:=hf i x s hx hs;exact ⟨u1,u2,q0,q1,q2,Row.of_own i1,Row.of_own i2⟩
end
theorem zcE {ok:Nat→Prop} {v:Value} {l:List Bool} (w:World) (h:zaQ w ok v l) (hl:l.length≤100000000000):
  Calls Tryz.prog 45 #[v] w fun e w'=>∃v',e=.returned v'∧Ext w w'∧zb2 w' w.heap.size v' l:=by
 have H:=zh h;have hnil:=nilEq 29 4 Tryz.underlying29;obtain ⟨A,c,rfl,hc,hr⟩:=h;rcases A with _ | a
 ·have hl0:l=[]:=by
   rcases Nat.eq_zero_or_pos l.length with h | h
   ·exact List.eq_nil_of_length_eq_zero h
   ·obtain ⟨b,off,e,_⟩:=hr.2 h;cases e
  subst hl0;clear hr
  go_enter Tryz.func45,Tryz.ntmps45
  go_wp2_with fail
  go_ret;exact ⟨_,rfl,Ext.refl _,World.ownsRow_nil _ _ _ _⟩
 ·clear hr;have hx:=Ext.refl w;have hone:∀u∈l.map Value.bool,u.oneCell'=true:=fun u hu=>by obtain ⟨b,-,rfl⟩:=List.mem_map.1 hu;rfl
  have HONE:=zh hone;clear hone
  go_enter Tryz.func45,Tryz.ntmps45
  go_wp2_with (at_builtin;refine wpList_append_row (ok:=ok) rfl _ _ _ eBool rfl w.heap.size 0 l.length [] (l.map Value.bool) _ _ rfl rfl (own_emptyT w w.heap.size 4 1 (Nat.le_refl _)) (zaQ.below H.out ((Ext.refl w).alloc _)) HONE.out ?d1 ?d2 ?d3 ?_)
  case d1=>simp
  case d2=>unfold maxLen;omega
  case d3=>omega
  intro v' w1 ho hg _
  have HM:Hid (Ext w w1∧zb2 w1 w.heap.size v' l):=⟨zT ((Ext.refl w).alloc _) hg (by simp) (fun k hk=>slice_own hk),by
   have:=ho
   try rw [Nat.zero_add] at this
   try rw [List.nil_append] at this
   exact this⟩
  clear ho hg
  go_wp2_with fail
  go_ret;exact ⟨_,rfl,HM.out.1,HM.out.2⟩
theorem sto6 {W:World} {g:Nat} {t:TypeId} {a b c d e f z0 z1 z2 z3 z4 z5:Value} (hb:Blk W g t #[z0,z1,z2,z3,z4,z5]):
  Blk ((((((W.setCell ⟨g,0,none⟩ a).setCell ⟨g,1,none⟩ b).setCell ⟨g,2,none⟩ c).setCell ⟨g,3,none⟩ d).setCell ⟨g,4,none⟩ e).setCell ⟨g,5,none⟩ f) g t #[a,b,c,d,e,f]∧
  W.grownBy ((((((W.setCell ⟨g,0,none⟩ a).setCell ⟨g,1,none⟩ b).setCell ⟨g,2,none⟩ c).setCell ⟨g,3,none⟩ d).setCell ⟨g,4,none⟩ e).setCell ⟨g,5,none⟩ f) (some g):=by
 exact ⟨(((((hb.set (k:=0) a).set (k:=1) b).set (k:=2) c).set (k:=3) d).set (k:=4) e).set (k:=5) f,
  (((((zb4 _ g 0 a).trans (zb4 _ g 1 b)).trans (zb4 _ g 2 c)).trans (zb4 _ g 3 d)).trans (zb4 _ g 4 e)).trans (zb4 _ g 5 f)⟩
theorem SubI.start {w0 wr:World} {g7:Nat} {W H L:Int} {up:List Bool} {vU:Value} (hE:Ext w0 wr) (hlo:w0.heap.size≤g7) (hb:Blk wr g7 32 #[.int .i64 W,.int .i64 H,.int .i64 L,.slice none 0 0,vU,.slice none 0 0]) (hu:zb2 wr w0.heap.size vU up):
  SubI w0 wr g7 W H L up (.slice none 0 0) vU (.slice none 0 0) (.slice none 0 0) (.slice none 0 0) [] [] []:=
 ⟨hE,hlo,hb,hu,⟨[],World.ownsRow_nil _ _ _ _,fun i x hx=>by simp at hx⟩,⟨[],World.ownsRow_nil _ _ _ _,rfl,fun i x s hx=>by simp at hx⟩⟩
end Go.Proofs.YthbjngbhbbkkgaaGreat
