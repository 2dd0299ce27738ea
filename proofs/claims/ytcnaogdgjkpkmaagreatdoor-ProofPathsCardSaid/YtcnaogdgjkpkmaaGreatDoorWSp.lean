import Derived.Test.YtcnaogdgjkpkmaaGreatDoorWSo
set_option linter.unusedVariables false
set_option linter.unusedSimpArgs false
set_option maxRecDepth 100000
set_option maxHeartbeats 16000000
namespace Go.Proofs.YtcnaogdgjkpkmaaGreatDoor
variable {a:Act} {K:Act->World->Prop} {ops:Array Oper} {x:Bool} {Q:Exit->Act->World->Prop} {l:List Bool} {xs:List Value} {bytes sz:Nat} {ok:Nat->Prop} {o:Obj} {v vF' vT' z:Value} {w5 w9:World}
section
open Go.RowKit
theorem Tryz.infoTask:(Tryz.prog.info? 101).map (fun i=>(i.zero,i.size,i.bytes))=some (some (.agg #[.string ⟨#[]⟩,.slice none 0 0,.slice none 0 0]),3,64):=by kernel_rfl
theorem Tryz.infoBools:(Tryz.prog.info? 32).map (fun i=>(i.zero,i.size,i.bytes))=some (some (.slice none 0 0),1,24):=by kernel_rfl
def zP (B:Nat) (w:World) (g:Nat):Prop:=B<=g/\∃(v:Value) (k:Nat) (l:List Int),zj w g 109 #[v,.int .i64 k]/\zn w (fun b=>b<B) v l/\l.length<=9223372036854775807/\k<=l.length
section
variable {B:Nat} {w w':World} {g:Nat}
theorem zP.keep (h:zP B w g) (D:Below B w w') (d:w'.heap[g]?=w.heap[g]?):zP B w' g:=by
 obtain ⟨h0,v,k,l,h1,h2,r⟩:=h;exact ⟨h0,v,k,l,d.trans h1,h2.keep fun b d E=>D.block b d,r⟩
theorem zP.ext (h:zP B w g) (d:zc w w') (D:B<=w.heap.size):zP B w' g:=by
 obtain ⟨h0,v,k,l,h1,h2,r⟩:=h;exact ⟨h0,v,k,l,(d.block g (zb h1)).trans h1,h2.below d,r⟩
theorem zP.lt (h:zP B w g):g<w.heap.size:=by
 obtain ⟨h0,v,k,l,h1,h2,d⟩:=h;exact zb h1
theorem zP.blk (h:zP B w g):∃cs,zj w g 109 cs:=by
 obtain ⟨h0,v,k,l,h1,h2,d⟩:=h;exact ⟨_,h1⟩
theorem zK (n:Int) (h:zP B w g) (r:0<n) (D:n<=1000000):
  Calls Tryz.prog 60 #[.pointer (some ⟨g,0,none⟩),.int .i64 n] w fun e w'=>∃x,e=.returned (.int .i64 x)/\0<=x/\x<n/\zP B w' g/\w.grownBy w' (some g):=by
 obtain ⟨h0,v,k,l,h1,h2,E,J⟩:=h;refine (draw_calls g k n w h1 h2 (by omega) E J r D).mono ?_;rintro e w' ⟨rfl,G,I⟩;refine ⟨_,rfl,?_,?_,⟨h0,v,drawK l k,l,G,h2.keep fun b G d=>I.block b d (fun e=>by injection e with e;omega),E,?_⟩,I⟩
 ·unfold drawV
  split
  ·exact Int.emod_nonneg _ (by omega)
  ·exact Int.le_refl _
 ·unfold drawV
  split
  ·exact Int.emod_lt_of_pos _ r
  ·exact r
 ·unfold drawK
  split <;> omega
end
theorem zy {w w':World} {B:Nat} {e:TypeId} {n:Nat} (h:w.ownsRow B e sz v n xs) (D:∀g,v.ownBlock=some g->w'.heap[g]?=w.heap[g]?):w'.ownsRow B e sz v n xs:=by
 obtain ⟨d,h0 | ⟨g,cap,cur,rfl,h1,h2,r⟩⟩:=h
 ·exact ⟨d,.inl h0⟩
 ·exact ⟨d,.inr ⟨g,cap,cur,rfl,h1,(D g rfl).trans h2,r⟩⟩
def OwnB (w:World) (B:Nat) (v:Value) (l:List Bool):Prop:=w.ownsRow B 4 1 v l.length (l.map Value.bool)
theorem OwnB.bools {w:World} {B:Nat} (h:OwnB w B v l):AZ w (fun b=>B<=b) v l:=An.of_own h
def BoolD (w:World) (B S n:Nat) (u:Value):Prop:=∃l,OwnB w B u l/\l.length=n/\∀g,u.ownBlock=some g->g<S
def TaskD (w:World) (B S n:Nat) (u1 u2:Value):Prop:=
 ∃l1 l2,zF w B u1 l1/\zF w B u2 l2/\(l1≠[]/\l2≠[])/\(l1.length<=2/\l2.length<=2)/\(∀x,x∈l1\/x∈l2->0<=x/\x<n)/\(∀g,u1.ownBlock=some g\/u2.ownBlock=some g->g<S)
section
variable {w w':World} {B S S' n:Nat} {u u1 u2:Value}
theorem BoolD.keep (h:BoolD w B S n u) (M:∀g cs,g<S->zj w g 4 cs->w'.heap[g]?=w.heap[g]?) (I:S<=S'):BoolD w' B S' n u:=by
 obtain ⟨l,h1,h2,d⟩:=h;refine ⟨l,?_,h2,fun g J=>Ee (d g J) I⟩;obtain ⟨D,h0 | ⟨g,cap,cur,rfl,E,r,G⟩⟩:=h1
 ·exact ⟨D,.inl h0⟩
 ·exact ⟨D,.inr ⟨g,cap,cur,rfl,E,(M g cur (d g rfl) r).trans r,G⟩⟩
theorem Bg {l:List Int} (h:zF w B v l) (G:∀g cs,v.ownBlock=some g->zj w g 3 cs->w'.heap[g]?=w.heap[g]?):zF w' B v l:=by
 obtain ⟨r,h0 | ⟨g,cap,cur,rfl,D,d,E⟩⟩:=h
 ·exact ⟨r,.inl h0⟩
 ·exact ⟨r,.inr ⟨g,cap,cur,rfl,D,(G g cur rfl d).trans d,E⟩⟩
theorem TaskD.keep (h:TaskD w B S n u1 u2) (E:∀g cs,g<S->zj w g 3 cs->w'.heap[g]?=w.heap[g]?) (M:S<=S'):TaskD w' B S' n u1 u2:=by
 obtain ⟨l1,l2,h1,h2,G,I,J,r⟩:=h;exact ⟨l1,l2,Bg h1 (fun g cs d D=>E g cs (r g (.inl d)) D),Bg h2 (fun g cs d D=>E g cs (r g (.inr d)) D),G,I,J,fun g d=>Ee (r g d) M⟩
theorem BoolD.store (h:BoolD w B S n u) (p:Addr) (hp:p.spot=none) (b:Bool):BoolD (w.setCell p (.bool b)) B S n u:=by
 obtain ⟨l,h1,h2,D⟩:=h;obtain ⟨pb,po,ps⟩:=p;obtain rfl:ps=none:=hp;obtain ⟨E,⟨rfl,h0⟩ | ⟨g,cap,cur,rfl,G,I,J,M,O,U⟩⟩:=h1
 ·exact ⟨l,⟨E,.inl ⟨rfl,h0⟩⟩,h2,D⟩
 ·by_cases V:g=pb
  ·subst V;refine ⟨l.set po b,?_,by simpa using h2,D⟩;have d:w.ownsRow B 4 1 (.slice (some ⟨g,0,none⟩) l.length cap) l.length (l.map Value.bool):=⟨E,.inr ⟨g,cap,cur,rfl,G,I,J,M,O,U⟩⟩;have r:=(d.stored po (.bool b)).1;unfold OwnB;rw [List.length_set,List.map_set];exact r
  ·exact ⟨l,⟨E,.inr ⟨g,cap,cur,rfl,G,(DL w ⟨pb,po,none⟩ _ g V).trans I,J,M,O,U⟩⟩,h2,D⟩
end
structure MS (B:Nat) (w:World) (S gm gd:Nat) (W H L:Int) (n tF tT:Nat) (vF vU vT:Value) (fs ts:List Value):Prop where
 hB:B<=w.heap.size
 hS:S<=w.heap.size
 mz:zj w gm 35 #[.int .i64 W,.int .i64 H,.int .i64 L,vF,vU,vT]
 gm0:B<=gm
 dr:zP B w gd
 F:w.ownsRow B 32 1 vF tF fs
 T:w.ownsRow B 101 3 vT tT ts
 fd:∀j,j<tF->∃u,fs[j]?=some u/\BoolD w B S n u
 td:∀j,j<tT->∃s u1 u2,ts[j*3]?=some (.string s)/\ts[j*3+1]?=some u1/\ts[j*3+2]?=some u2/\TaskD w B S n u1 u2
section
variable {B:Nat} {w w':World} {S S' gm gd:Nat} {W H L:Int} {n tF tT:Nat} {vF vU vU' vT:Value} {fs ts:List Value}
theorem MS.keep (h:MS B w S gm gd W H L n tF tT vF vU vT fs ts) (U:w.heap.size<=w'.heap.size) (hm:w'.heap[gm]?=w.heap[gm]?) (hd:zP B w' gd)
  (hk:∀g ty cs,g<w.heap.size->zj w g ty cs->ty=32\/ty=101->g∉([]:List Nat)->w'.heap[g]?=w.heap[g]?) (D:∀g ty cs,g<S->zj w g ty cs->ty=4\/ty=3->w'.heap[g]?=w.heap[g]?) (V:S<=S') (I:S'<=w'.heap.size):
  MS B w' S' gm gd W H L n tF tT vF vU vT fs ts:=by
 refine ⟨DE h.hB U,I,hm.trans h.mz,h.gm0,hd,?_,?_,fun j O=>?_,fun j O=>?_⟩
 ·obtain ⟨E,h0 | ⟨g,cap,cur,rfl,r,d,G⟩⟩:=h.F
  ·exact ⟨E,.inl h0⟩
  ·exact ⟨E,.inr ⟨g,cap,cur,rfl,r,(hk g _ cur (zb d) d (.inl rfl) (by simp)).trans d,G⟩⟩
 ·obtain ⟨E,h0 | ⟨g,cap,cur,rfl,r,d,G⟩⟩:=h.T
  ·exact ⟨E,.inl h0⟩
  ·exact ⟨E,.inr ⟨g,cap,cur,rfl,r,(hk g _ cur (zb d) d (.inr rfl) (by simp)).trans d,G⟩⟩
 ·obtain ⟨u,h1,h2⟩:=h.fd j O;exact ⟨u,h1,h2.keep (fun g cs M J=>D g _ cs M J (.inl rfl)) V⟩
 ·obtain ⟨s,u1,u2,h1,h2,h3,r⟩:=h.td j O;exact ⟨s,u1,u2,h1,h2,h3,r.keep (fun g cs M J=>D g _ cs M J (.inr rfl)) V⟩
theorem MS.ext (h:MS B w S gm gd W H L n tF tT vF vU vT fs ts) (d:zc w w'):MS B w' w'.heap.size gm gd W H L n tF tT vF vU vT fs ts:=
 h.keep d.size (d.block gm (zb h.mz)) (h.dr.ext d h.hB) (fun g _ _ r _ _ _=>d.block g r) (fun g _ _ r _ _=>d.block g (Ee r h.hS)) (DE h.hS d.size) (DC _)
theorem MS.extS (h:MS B w S gm gd W H L n tF tT vF vU vT fs ts) (d:zc w w'):MS B w' S gm gd W H L n tF tT vF vU vT fs ts:=
 h.keep d.size (d.block gm (zb h.mz)) (h.dr.ext d h.hB) (fun g _ _ r _ _ _=>d.block g r) (fun g _ _ r _ _=>d.block g (Ee r h.hS)) (DC _) (DE h.hS d.size)
theorem MS.drawn (h:MS B w S gm gd W H L n tF tT vF vU vT fs ts) (I:zP B w' gd) (D:w.grownBy w' (some gd)):MS B w' S gm gd W H L n tF tT vF vU vT fs ts:=by
 obtain ⟨cs,G⟩:=h.dr.blk
 have r:∀g ty cs',zj w g ty cs'->ty≠109->w'.heap[g]?=w.heap[g]?:=fun g ty cs' d E=>D.block g (zb d) (fun e=>by
  injection e with e;exact zj.ne_ d G E e)
 refine h.keep D.size (r gm _ _ h.mz (by decide)) I (fun g ty cs' _ d ht _=>r g ty cs' d (by rcases ht with rfl | rfl <;> decide)) (fun g ty cs' _ d ht=>r g ty cs' d (by rcases ht with rfl | rfl <;> decide)) (DC _) (DE h.hS D.size)
theorem MS.store (h:MS B w S gm gd W H L n tF tT vF vU vT fs ts) {g k:Nat} {cs:Array Value} (hb:zj w g 4 cs) (a1:B<=g) (b:Bool):MS B (w.setCell ⟨g,k,none⟩ (.bool b)) S gm gd W H L n tF tT vF vU vT fs ts:=by
 have D:∀g' ty cs',zj w g' ty cs'->ty≠4->(w.setCell ⟨g,k,none⟩ (.bool b)).heap[g']?=w.heap[g']?:=fun g' ty cs' d O=>DL w ⟨g,k,none⟩ _ g' (zj.ne_ d hb O)
 have E:(w.setCell ⟨g,k,none⟩ (.bool b)).heap.size=w.heap.size:=by simp [World.setCell]
 refine ⟨by rw [E];exact h.hB,by rw [E];exact h.hS,(D gm _ _ h.mz (by decide)).trans h.mz,h.gm0,?_,?_,?_,fun j M=>?_,fun j M=>?_⟩
 ·obtain ⟨cs',d⟩:=h.dr.blk;obtain ⟨h0,v,k',l,h1,h2,G⟩:=h.dr;refine ⟨h0,v,k',l,(D gd _ _ d (by decide)).trans h1,?_,G⟩
  exact h2.keep fun b' U a3=>DL w ⟨g,k,none⟩ _ b' (by
   show b'≠g;omega)
 ·exact zy h.F fun g' r=>by
   obtain ⟨hl,⟨rfl,_⟩ | ⟨g2,cap,cur,rfl,I,J,V⟩⟩:=h.F
   ·cases r
   ·have:g2=g':=by simpa [Value.ownBlock] using r
    subst this;exact D g2 _ _ J (by decide)
 ·exact zy h.T fun g' r=>by
   obtain ⟨hl,⟨rfl,_⟩ | ⟨g2,cap,cur,rfl,I,J,V⟩⟩:=h.T
   ·cases r
   ·have:g2=g':=by simpa [Value.ownBlock] using r
    subst this;exact D g2 _ _ J (by decide)
 ·obtain ⟨u,h1,h2⟩:=h.fd j M;exact ⟨u,h1,h2.store _ rfl b⟩
 ·obtain ⟨s,u1,u2,h1,h2,G,I⟩:=h.td j M;exact ⟨s,u1,u2,h1,h2,G,I.keep (fun g' cs' _ d=>D g' _ cs' d (by decide)) (DC _)⟩
theorem MS.addT (h:MS B w S gm gd W H L n tF tT vF vU vT fs ts) {s:ByteArray} {u1 u2:Value} (hd:TaskD w B S n u1 u2) (ho:w5.ownsRow B 101 3 vT' (tT+1) (ts++[.string s,u1,u2])) (hg:(w.alloc o).grownBy w5 vT.ownBlock):
  MS B (w5.setCell ⟨gm,5,none⟩ vT') S gm gd W H L n tF (tT+1) vF vU vT' fs (ts++[.string s,u1,u2])/\
   (∀g ty cs,zj w g ty cs->ty≠101->ty≠35->(w5.setCell ⟨gm,5,none⟩ vT').heap[g]?=w.heap[g]?)/\Below B w (w5.setCell ⟨gm,5,none⟩ vT'):=by
 have h1:∀g ty cs,zj w g ty cs->ty≠101->w5.heap[g]?=w.heap[g]?:=fun g ty cs r E=>(hg.block g (by have:=zb r;simp;omega) (fun e=>zg h.T r (Ne.symm E) e.symm)).trans (DV _ _ _ (zb r))
 have M:zj w5 gm 35 #[.int .i64 W,.int .i64 H,.int .i64 L,vF,vU,vT]:=(h1 gm _ _ h.mz (by decide)).trans h.mz;have h2:∀g ty cs,zj w g ty cs->ty≠101->ty≠35->(w5.setCell ⟨gm,5,none⟩ vT').heap[g]?=w.heap[g]?:=fun g ty cs r E U=>(DL w5 ⟨gm,5,none⟩ _ g (zj.ne_ r h.mz U)).trans (h1 g ty cs r E)
 have O:w.heap.size<=(w5.setCell ⟨gm,5,none⟩ vT').heap.size:=by have:=hg.size;simp [World.setCell] at this⊢;omega
 have D:Below B w (w5.setCell ⟨gm,5,none⟩ vT'):=by
  have I:Below B w (w.alloc o):=(Below.refl B w).alloc h.hB _;have G:Below B w w5:=I.grown hg (by simp;have:=h.hB;omega) (fun k hk=>(h.T.lt k hk).1);exact G.setCell (p:=⟨gm,5,none⟩) h.gm0 _
 refine ⟨⟨DE h.hB O,DE h.hS O,M.set (k:=5) vT',h.gm0,?_,?_,?_,fun j hj=>?_,fun j hj=>?_⟩,h2,D⟩
 ·obtain ⟨cs,r⟩:=h.dr.blk;exact h.dr.keep D (h2 gd _ _ r (by decide) (by decide))
 ·exact zy h.F fun g d=>by
   obtain ⟨hl,⟨e,_⟩ | ⟨g2,cap,cur,e,G,V,h6⟩⟩:=h.F
   ·rw [e] at d;cases d
   ·rw [e] at d;have:g2=g:=by simpa [Value.ownBlock] using d
    subst this;exact h2 g2 _ _ V (by decide) (by decide)
 ·exact zy ho fun g d=>DL w5 ⟨gm,5,none⟩ _ g (fun e=>by
   have e':g=gm:=e;subst e';exact zg ho M (by decide) d)
 ·obtain ⟨u,I,G⟩:=h.fd j hj;exact ⟨u,I,G.keep (fun g cs _ r=>h2 g _ cs r (by decide) (by decide)) (DC _)⟩
 ·have a4:ts.length=tT*3:=h.T.1;have J:∀{a b:Value},TaskD w B S n a b->TaskD (w5.setCell ⟨gm,5,none⟩ vT') B S n a b:=fun hh=>hh.keep (fun g cs _ r=>h2 g _ cs r (by decide) (by decide)) (DC _)
  rcases DZ j tT with hj2 | hj2
  ·obtain ⟨s',a,b,I,G,V,h6⟩:=h.td j hj2;exact ⟨s',a,b,by rw [DH (by omega)];exact I,by rw [DH (by omega)];exact G,by rw [DH (by omega)];exact V,J h6⟩
  ·have a1:j=tT:=by omega
   subst a1;refine ⟨s,u1,u2,?_,?_,?_,J hd⟩
   ·rw [DI (by omega),show j*3 - ts.length=0 from by omega];rfl
   ·rw [DI (by omega),show j*3+1 - ts.length=1 from by omega];rfl
   ·rw [DI (by omega),show j*3+2 - ts.length=2 from by omega];rfl
theorem MS.addF (h:MS B w S gm gd W H L n tF tT vF vU vT fs ts) {u:Value} (hd:BoolD w B S n u) (ho:w5.ownsRow B 32 1 vF' (tF+1) (fs++[u])) (hg:(w.alloc o).grownBy w5 vF.ownBlock):
  MS B (w5.setCell ⟨gm,3,none⟩ vF') S gm gd W H L n (tF+1) tT vF' vU vT (fs++[u]) ts/\Below B w (w5.setCell ⟨gm,3,none⟩ vF'):=by
 have h1:∀g ty cs,zj w g ty cs->ty≠32->w5.heap[g]?=w.heap[g]?:=fun g ty cs r E=>(hg.block g (by have:=zb r;simp;omega) (fun e=>zg h.F r (Ne.symm E) e.symm)).trans (DV _ _ _ (zb r))
 have M:zj w5 gm 35 #[.int .i64 W,.int .i64 H,.int .i64 L,vF,vU,vT]:=(h1 gm _ _ h.mz (by decide)).trans h.mz;have h2:∀g ty cs,zj w g ty cs->ty≠32->ty≠35->(w5.setCell ⟨gm,3,none⟩ vF').heap[g]?=w.heap[g]?:=fun g ty cs r E U=>(DL w5 ⟨gm,3,none⟩ _ g (zj.ne_ r h.mz U)).trans (h1 g ty cs r E)
 have O:w.heap.size<=(w5.setCell ⟨gm,3,none⟩ vF').heap.size:=by have:=hg.size;simp [World.setCell] at this⊢;omega
 have D:Below B w (w5.setCell ⟨gm,3,none⟩ vF'):=by
  have I:Below B w (w.alloc o):=(Below.refl B w).alloc h.hB _;have G:Below B w w5:=I.grown hg (by simp;have:=h.hB;omega) (fun k hk=>(h.F.lt k hk).1);exact G.setCell (p:=⟨gm,3,none⟩) h.gm0 _
 refine ⟨⟨DE h.hB O,DE h.hS O,M.set (k:=3) vF',h.gm0,?_,?_,?_,fun j hj=>?_,fun j hj=>?_⟩,D⟩
 ·obtain ⟨cs,r⟩:=h.dr.blk;exact h.dr.keep D (h2 gd _ _ r (by decide) (by decide))
 ·exact zy ho fun g d=>DL w5 ⟨gm,3,none⟩ _ g (fun e=>by
   have e':g=gm:=e;subst e';exact zg ho M (by decide) d)
 ·exact zy h.T fun g d=>by
   obtain ⟨hl,⟨e,_⟩ | ⟨g2,cap,cur,e,G,V,h6⟩⟩:=h.T
   ·rw [e] at d;cases d
   ·rw [e] at d;have:g2=g:=by simpa [Value.ownBlock] using d
    subst this;exact h2 g2 _ _ V (by decide) (by decide)
 ·have a4:fs.length=tF:=by have:=h.F.1;omega
  have J:∀{a:Value},BoolD w B S n a->BoolD (w5.setCell ⟨gm,3,none⟩ vF') B S n a:=fun hh=>hh.keep (fun g cs _ r=>h2 g _ cs r (by decide) (by decide)) (DC _)
  rcases DZ j tF with hj2 | hj2
  ·obtain ⟨a,I,G⟩:=h.fd j hj2;exact ⟨a,by rw [DH (by omega)];exact I,J G⟩
  ·have a1:j=tF:=by omega
   subst a1;exact ⟨u,by rw [DI (by omega),show j - fs.length=0 from by omega];rfl,J hd⟩
 ·obtain ⟨s,u1,u2,I,G,V,h6⟩:=h.td j hj;exact ⟨s,u1,u2,I,G,V,h6.keep (fun g cs _ r=>h2 g _ cs r (by decide) (by decide)) (DC _)⟩
theorem MS.addU (h:MS B w S gm gd W H L n tF tT vF vU vT fs ts) {us:List Bool} (a7:B<=S) (hu:OwnB w S vU us) (ho:w5.ownsRow S 4 1 vU' (us.length+1) (us.map Value.bool++[.bool x])) (hg:(w.alloc o).grownBy w5 vU.ownBlock):
  MS B (w5.setCell ⟨gm,4,none⟩ vU') S gm gd W H L n tF tT vF vU' vT fs ts/\OwnB (w5.setCell ⟨gm,4,none⟩ vU') S vU' (us++[x])/\Below B w (w5.setCell ⟨gm,4,none⟩ vU'):=by
 have h1:∀g ty cs,zj w g ty cs->ty≠4\/g<S->w5.heap[g]?=w.heap[g]?:=fun g ty cs r hty=>(hg.block g (by have:=zb r;simp;omega) (fun e=>by
  rcases hty with hty | hty
  ·exact zg hu r (Ne.symm hty) e.symm
  ·have:=(World.ownsRow.lt hu g e.symm).1;omega)).trans (DV _ _ _ (zb r))
 have J:zj w5 gm 35 #[.int .i64 W,.int .i64 H,.int .i64 L,vF,vU,vT]:=(h1 gm _ _ h.mz (.inl (by decide))).trans h.mz;have h2:∀g ty cs,zj w g ty cs->ty≠4\/g<S->ty≠35->(w5.setCell ⟨gm,4,none⟩ vU').heap[g]?=w.heap[g]?:=fun g ty cs r hty O=>(DL w5 ⟨gm,4,none⟩ _ g (zj.ne_ r h.mz O)).trans (h1 g ty cs r hty)
 have M:w.heap.size<=(w5.setCell ⟨gm,4,none⟩ vU').heap.size:=by have:=hg.size;simp [World.setCell] at this⊢;omega
 have D:Below B w (w5.setCell ⟨gm,4,none⟩ vU'):=by
  have I:Below B w (w.alloc o):=(Below.refl B w).alloc h.hB _;have G:Below B w w5:=I.grown hg (by simp;have:=h.hB;omega) (fun k hk=>by have:=(World.ownsRow.lt hu k hk).1;omega);exact G.setCell (p:=⟨gm,4,none⟩) h.gm0 _
 have E:∀{e:TypeId} {sz k:Nat} {v:Value} {xs:List Value},w.ownsRow B e sz v k xs->e≠4->e≠35->(w5.setCell ⟨gm,4,none⟩ vU').ownsRow B e sz v k xs:=fun hr he V=>zy hr fun g d=>by
  obtain ⟨hl,⟨e,_⟩ | ⟨g2,cap,cur,e,G,U,h6⟩⟩:=hr
  ·rw [e] at d;cases d
  ·rw [e] at d;have:g2=g:=by simpa [Value.ownBlock] using d
   subst this;exact h2 g2 _ _ U (.inl he) V
 refine ⟨⟨DE h.hB M,DE h.hS M,J.set (k:=4) vU',h.gm0,?_,E h.F (by decide) (by decide),E h.T (by decide) (by decide),fun j hj=>?_,fun j hj=>?_⟩,?_,D⟩
 ·obtain ⟨cs,r⟩:=h.dr.blk;exact h.dr.keep D (h2 gd _ _ r (.inl (by decide)) (by decide))
 ·obtain ⟨u,I,G⟩:=h.fd j hj;exact ⟨u,I,G.keep (fun g cs a1 r=>h2 g _ cs r (.inr a1) (by decide)) (DC _)⟩
 ·obtain ⟨s,u1,u2,I,G,U,h6⟩:=h.td j hj;exact ⟨s,u1,u2,I,G,U,h6.keep (fun g cs _ r=>h2 g _ cs r (.inl (by decide)) (by decide)) (DC _)⟩
 ·unfold OwnB;rw [DK,Ec,Es]
  exact zy ho fun g d=>DL w5 ⟨gm,4,none⟩ _ g (fun e=>by
   have e':g=gm:=e;subst e';exact zg ho J (by decide) d)
end
structure R1 (B:Nat) (w:World) (S ge gt n:Nat) (s:ByteArray) (u1 u2:Value) (l1 l2:List Int):Prop where
 hB:B<=S
 hS:S<=w.heap.size
 dr:zP B w ge
 hge:S<=ge
 tk:zj w gt 101 #[.string s,u1,u2]
 hgt:S<=gt
 o1:zF w S u1 l1
 o2:zF w S u2 l2
 ne:u1.ownBlock=none\/u1.ownBlock≠u2.ownBlock
 e1:l1≠[]
 e2:l2≠[]
 rg:∀x,x∈l1\/x∈l2->0<=x/\x<(n:Int)
section
variable {B:Nat} {w w':World} {S ge gt n:Nat} {s:ByteArray} {u1 u2:Value} {l1 l2:List Int}
theorem R1.keep (h:R1 B w S ge gt n s u1 u2 l1 l2) (D:Below B w w') (r:∀g ty cs,zj w g ty cs->ty=109\/ty=101\/ty=3->w'.heap[g]?=w.heap[g]?):R1 B w' S ge gt n s u1 u2 l1 l2:=by
 obtain ⟨cs,d⟩:=h.dr.blk;exact ⟨h.hB,DE h.hS D.size,h.dr.keep D (r ge _ _ d (.inl rfl)),h.hge,(r gt _ _ h.tk (.inr (.inl rfl))).trans h.tk,h.hgt,Bg h.o1 (fun g cs _ d=>r g _ cs d (.inr (.inr rfl))),Bg h.o2 (fun g cs _ d=>r g _ cs d (.inr (.inr rfl))),h.ne,h.e1,h.e2,h.rg⟩
theorem R1.ext (h:R1 B w S ge gt n s u1 u2 l1 l2) (d:zc w w'):R1 B w' S ge gt n s u1 u2 l1 l2:=
 h.keep (d.mono (DE h.hB h.hS)) (fun g _ _ r _=>d.block g (zb r))
theorem R1.drawn (h:R1 B w S ge gt n s u1 u2 l1 l2) (I:zP B w' ge) (G:w.grownBy w' (some ge)):R1 B w' S ge gt n s u1 u2 l1 l2:=by
 obtain ⟨cs,r⟩:=h.dr.blk
 have d:∀g ty cs',zj w g ty cs'->ty≠109->w'.heap[g]?=w.heap[g]?:=fun g ty cs' D E=>G.block g (zb D) (fun e=>by
  injection e with e;exact zj.ne_ D r E e)
 exact ⟨h.hB,DE h.hS G.size,I,h.hge,(d gt _ _ h.tk (by decide)).trans h.tk,h.hgt,Bg h.o1 (fun g cs _ r=>d g _ cs r (by decide)),Bg h.o2 (fun g cs _ r=>d g _ cs r (by decide)),h.ne,h.e1,h.e2,h.rg⟩
theorem R1.drawnExt {wR:World} (h:R1 B w wR.heap.size ge gt n s u1 u2 l1 l2) (d:zc wR w) (D:w.grownBy w' (some ge)):zc wR w':=
 Below.grown d D d.size (fun k r=>by injection r with r;have:=h.hge;omega)
theorem R1.add1 (h:R1 B w S ge gt n s u1 u2 l1 l2) {u1':Value} {x:Int} (hx:0<=x/\x<(n:Int)) (M:w5.ownsRow S 3 1 u1' (l1.length+1) (l1.map (Value.int .i64)++[.int .i64 x])) (J:(w.alloc o).grownBy w5 u1.ownBlock)
  (hv:u1'.ownBlock=u1.ownBlock\/u1'.ownBlock=some (w.heap.size+1)):R1 B (w5.setCell ⟨gt,1,none⟩ u1') S ge gt n s u1' u2 (l1++[x]) l2/\Below S w (w5.setCell ⟨gt,1,none⟩ u1'):=by
 obtain ⟨cs,d⟩:=h.dr.blk;have h1:∀g ty cs,zj w g ty cs->u1.ownBlock≠some g->w5.heap[g]?=w.heap[g]?:=fun g ty cs d E=>(J.block g (by have:=zb d;simp;omega) (fun e=>E e.symm)).trans (DV _ _ _ (zb d))
 have G:zj w5 gt 101 #[.string s,u1,u2]:=(h1 gt _ _ h.tk (zg h.o1 h.tk (by decide))).trans h.tk;have h2:∀g ty cs,zj w g ty cs->u1.ownBlock≠some g->ty≠101->(w5.setCell ⟨gt,1,none⟩ u1').heap[g]?=w.heap[g]?:=fun g ty cs d E U=>(DL w5 ⟨gt,1,none⟩ _ g (zj.ne_ d h.tk U)).trans (h1 g ty cs d E)
 have O:w.heap.size<=(w5.setCell ⟨gt,1,none⟩ u1').heap.size:=by have:=J.size;simp [World.setCell] at this⊢;omega
 have r:Below S w (w5.setCell ⟨gt,1,none⟩ u1'):=by
  have V:Below S w (w.alloc o):=(Below.refl S w).alloc h.hS _;have h4:Below S w w5:=V.grown J (by simp;have:=h.hS;omega) (fun k hk=>(World.ownsRow.lt h.o1 k hk).1);exact h4.setCell (p:=⟨gt,1,none⟩) h.hgt _
 refine ⟨⟨h.hB,DE h.hS O,h.dr.keep (r.mono h.hB) (h2 ge _ _ d (zg h.o1 d (by decide)) (by decide)),h.hge,G.set (k:=1) u1',h.hgt,?_,?_,?_,by simp,h.e2,?_⟩,r⟩
 ·show World.ownsRow _ _ _ _ _ (l1++[x]).length _;rw [DK,Ec,Es]
  exact zy M fun g D=>DL w5 ⟨gt,1,none⟩ _ g (fun e=>by
   have e':g=gt:=e;subst e';exact zg M G (by decide) D)
 ·exact Bg h.o2 (fun g cs D I=>h2 g _ cs I (fun e=>by
   rcases h.ne with hn | hn
   ·rw [hn] at e;cases e
   ·exact hn (e.trans D.symm)) (by decide))
 ·right
  rcases hv with hv | hv
  ·rw [hv];rcases h.ne with hn | hn
   ·rw [hn] at hv;obtain ⟨g,c,e,_,_⟩:=World.ownsRow.form M (by omega);rw [e] at hv;cases hv
   ·exact hn
  ·rw [hv];intro e;have:=(World.ownsRow.lt h.o2 _ e.symm).2;omega
 ·intro y hy;rcases hy with hy | hy
  ·rcases Er.1 hy with hy | hy
   ·exact h.rg y (.inl hy)
   ·rw [Ej] at hy;rw [hy];exact hx
  ·exact h.rg y (.inr hy)
theorem R1.add2 (h:R1 B w S ge gt n s u1 u2 l1 l2) {u2':Value} {x:Int} (hx:0<=x/\x<(n:Int)) (U:w5.ownsRow S 3 1 u2' (l2.length+1) (l2.map (Value.int .i64)++[.int .i64 x])) (J:(w.alloc o).grownBy w5 u2.ownBlock)
  (hv:u2'.ownBlock=u2.ownBlock\/u2'.ownBlock=some (w.heap.size+1)):R1 B (w5.setCell ⟨gt,2,none⟩ u2') S ge gt n s u1 u2' l1 (l2++[x])/\Below S w (w5.setCell ⟨gt,2,none⟩ u2'):=by
 obtain ⟨cs,r⟩:=h.dr.blk;have h1:∀g ty cs,zj w g ty cs->u2.ownBlock≠some g->w5.heap[g]?=w.heap[g]?:=fun g ty cs r E=>(J.block g (by have:=zb r;simp;omega) (fun e=>E e.symm)).trans (DV _ _ _ (zb r))
 have G:zj w5 gt 101 #[.string s,u1,u2]:=(h1 gt _ _ h.tk (zg h.o2 h.tk (by decide))).trans h.tk;have h2:∀g ty cs,zj w g ty cs->u2.ownBlock≠some g->ty≠101->(w5.setCell ⟨gt,2,none⟩ u2').heap[g]?=w.heap[g]?:=fun g ty cs r E O=>(DL w5 ⟨gt,2,none⟩ _ g (zj.ne_ r h.tk O)).trans (h1 g ty cs r E)
 have M:w.heap.size<=(w5.setCell ⟨gt,2,none⟩ u2').heap.size:=by have:=J.size;simp [World.setCell] at this⊢;omega
 have D:Below S w (w5.setCell ⟨gt,2,none⟩ u2'):=by
  have V:Below S w (w.alloc o):=(Below.refl S w).alloc h.hS _;have h4:Below S w w5:=V.grown J (by simp;have:=h.hS;omega) (fun k hk=>(World.ownsRow.lt h.o2 k hk).1);exact h4.setCell (p:=⟨gt,2,none⟩) h.hgt _
 refine ⟨⟨h.hB,DE h.hS M,h.dr.keep (D.mono h.hB) (h2 ge _ _ r (zg h.o2 r (by decide)) (by decide)),h.hge,G.set (k:=2) u2',h.hgt,?_,?_,?_,h.e1,by simp,?_⟩,D⟩
 ·exact Bg h.o1 (fun g cs d I=>h2 g _ cs I (fun e=>by
   rcases h.ne with hn | hn
   ·rw [hn] at d;cases d
   ·exact hn (d.trans e.symm)) (by decide))
 ·show World.ownsRow _ _ _ _ _ (l2++[x]).length _;rw [DK,Ec,Es]
  exact zy U fun g d=>DL w5 ⟨gt,2,none⟩ _ g (fun e=>by
   have e':g=gt:=e;subst e';exact zg U G (by decide) d)
 ·rcases hv with hv | hv
  ·rw [hv];exact h.ne
  ·by_cases h0:u1.ownBlock=none
   ·exact .inl h0
   ·right
    rw [hv];intro e;have:=(World.ownsRow.lt h.o1 _ e).2;omega
 ·intro y hy;rcases hy with hy | hy
  ·exact h.rg y (.inl hy)
  ·rcases Er.1 hy with hy | hy
   ·exact h.rg y (.inr hy)
   ·rw [Ej] at hy;rw [hy];exact hx
theorem R1.taskD (h:R1 B w S ge gt n s u1 u2 l1 l2) (k1:l1.length<=2) (k2:l2.length<=2):TaskD w B w.heap.size n u1 u2:=
 ⟨l1,l2,World.ownsRow.mono h.o1 h.hB,World.ownsRow.mono h.o2 h.hB,⟨h.e1,h.e2⟩,⟨k1,k2⟩,h.rg,fun g hg=>by
  rcases hg with hg | hg
  ·exact (World.ownsRow.lt h.o1 g hg).2
  ·exact (World.ownsRow.lt h.o2 g hg).2⟩
end
theorem OwnB.app {S:Nat} {v':Value} (d:w5.ownsRow S 4 1 v' (l.length+1) (l.map Value.bool++[.bool x])):OwnB w5 S v' (l++[x]):=by
 unfold OwnB;rw [DK,Ec,Es];exact d
theorem R1.grownB {B:Nat} {w:World} {S S2 ge gt n:Nat} {s:ByteArray} {u1 u2:Value} {l1 l2:List Int} (h:R1 B w S ge gt n s u1 u2 l1 l2) (G:OwnB w S2 v l) (J:S<=S2) (E:(w.alloc o).grownBy w5 v.ownBlock):R1 B w5 S ge gt n s u1 u2 l1 l2/\Below S w w5:=by
 have d:Below S w w5:=by
  have I:Below S w (w.alloc o):=(Below.refl S w).alloc h.hS _;exact I.grown E (by simp;have:=h.hS;omega) (fun k M=>DE J (World.ownsRow.lt G k M).1)
 refine ⟨h.keep (d.mono h.hB) fun g ty cs r D=>?_,d⟩;exact (E.block g (by have:=zb r;simp;omega) (fun e=>zg G r (by rcases D with rfl | rfl | rfl <;> decide) e.symm)).trans (DV _ _ _ (zb r))
theorem cells3n (w:World) (a b c:Value) (t:TypeId):∀j u,[a,b,c][j]?=some u->(w.alloc (.cells #[a,b,c] t)).cell? ((⟨w.heap.size,0,none⟩:Addr).add j)=some u:=by
 intro j u d;have r:zj (w.alloc (.cells #[a,b,c] t)) w.heap.size t #[a,b,c]:=zj.new _ _ _ rfl
 match j,d with
 | 0,d=>exact r.cell (k:=0) d
 | 1,d=>exact r.cell (k:=1) d
 | 2,d=>exact r.cell (k:=2) d
section
variable {B:Nat} {w:World} {S S2 gm gd ge gt:Nat} {W H L:Int} {n t:Nat} {vF vU vT vf:Value} {fs ts:List Value} {s:ByteArray} {u1 u2:Value} {l1 l2:List Int} {lf:List Bool}
theorem MS.end1 (h:MS B w w.heap.size gm gd W H L n t t vF vU vT fs ts) (J:R1 B w S ge gt n s u1 u2 l1 l2) (k1:l1.length<=2) (k2:l2.length<=2) (r:OwnB w S2 vf lf) (I:w9.ownsRow B 101 3 vT' (t+1) (ts++[.string s,u1,u2])) (G:(w.alloc o).grownBy w9 vT.ownBlock):
  MS B (w9.setCell ⟨gm,5,none⟩ vT') w.heap.size gm gd W H L n t (t+1) vF vU vT' fs (ts++[.string s,u1,u2])/\OwnB (w9.setCell ⟨gm,5,none⟩ vT') S2 vf lf/\Below B w (w9.setCell ⟨gm,5,none⟩ vT'):=by
 obtain ⟨h1,h2,D⟩:=h.addT (J.taskD k1 k2) I G;refine ⟨h1,zy r fun g d=>?_,D⟩;obtain ⟨U,⟨e,_⟩ | ⟨g2,cap,cur,e,M,E,O⟩⟩:=r
 ·rw [e] at d;cases d
 ·rw [e] at d;have:g2=g:=by simpa [Value.ownBlock] using d
  subst this;exact h2 g2 _ _ E (by decide) (by decide)
theorem MS.end2 (h:MS B w S gm gd W H L n t (t+1) vF vU vT fs ts) (E:OwnB w S2 vf lf) (d:lf.length=n) (r:B<=S2) (D:∀g,vf.ownBlock=some g->g<S) (I:w9.ownsRow B 32 1 vF' (t+1) (fs++[vf])) (G:(w.alloc o).grownBy w9 vF.ownBlock):
  MS B (w9.setCell ⟨gm,3,none⟩ vF') (w9.setCell ⟨gm,3,none⟩ vF').heap.size gm gd W H L n (t+1) (t+1) vF' vU vT (fs++[vf]) ts/\Below B w (w9.setCell ⟨gm,3,none⟩ vF'):=by
 obtain ⟨h1,h2⟩:=h.addF ⟨lf,World.ownsRow.mono E r,d,D⟩ I G;exact ⟨h1.ext (zc.refl _),h2⟩
theorem MS.c5 (h:MS B w S gm gd W H L n t (t+1) vF vU vT fs ts):w.cell? ⟨gm,3,none⟩=some vF:=h.mz.cell (k:=3) rfl
end
theorem hasB {w:World} {B:Nat} {u:Value} {l:List Int} (k:Int) (o:zF w B u l) (r:l.length<=1000):∃b,∀W,zc w W->Calls Tryz.prog 62 #[u,.int .i64 k] W fun e w'=>e=.returned (.bool b)/\W=w':=
 ⟨_,fun W d=>has_calls k W (zn.below (An.of_own o) d) (by omega)⟩
theorem own_blkB {w:World} {B n g c:Nat} {e:TypeId} (h:w.ownsRow B e sz (.slice (some ⟨g,0,none⟩) n c) n xs):∃cs,zj w g e cs:=by
 obtain ⟨_,⟨e,_⟩ | ⟨g2,cap,cur,e,_,d,_⟩⟩:=h
 ·cases e
 ·injection e with e _ _;injection e with e;injection e with e;subst e;exact ⟨cur,d⟩
theorem MS.stored {B:Nat} {w1 w:World} {S gm gd g k:Nat} {W H L:Int} {n tF tT:Nat} {vF vU vT:Value} {fs ts:List Value} (h:MS B w S gm gd W H L n tF tT vF vU vT fs ts) (D:zc w1 w) (G:B=w1.heap.size) (d:∃cs,zj w g 4 cs) (E:B<=g) (b:Bool):
  MS B (w.drew.setCell ⟨g,k,none⟩ (.bool b)) (w.drew.setCell ⟨g,k,none⟩ (.bool b)).heap.size gm gd W H L n tF tT vF vU vT fs ts/\zc w1 (w.drew.setCell ⟨g,k,none⟩ (.bool b)):=by
 obtain ⟨cs,d⟩:=d;have h1:=h.extS ((zc.refl w).drew);have r:zj w.drew g 4 cs:=d;have h2:=h1.store (k:=k) r E b;exact ⟨h2.ext (zc.refl _),D.drew.setCell (p:=⟨g,k,none⟩) (by show w1.heap.size<=g;omega) _⟩
structure ElemI (t e:TypeId) (z:Value) (sz bytes:Nat):Prop where
 ht:Tryz.prog.underlying t=some (.slice e)
 hi:(Tryz.prog.info? e).map (fun i=>(i.zero,i.size,i.bytes))=some (some z,sz,bytes)
 hz:z.cells.size=sz
 h0:0<sz
theorem Di (w:World) (base:Nat) (t ty e:TypeId) (z:Value) (sz bytes:Nat) (I:ElemI t e z sz bytes)
  (v:Value) (n:Nat) (xs:List Value) (E:w.ownsRow base e sz v n xs) (u:Value) (m:Nat) (news:List Value) (hu:An w ok sz u m news) (h1:∀u∈news,u.oneCell'=true)
  (M:n+m<=maxLen) (r:(n+m)*bytes<=140737488355328) (G:base<=w.heap.size):
  ∃v' w',(Builtin.append_ #[t,t] ty #[v,u]).run Tryz.prog w=.ok v' w'/\w'.ownsRow base e sz v' (n+m) (xs++news)/\w.grownBy w' v.ownBlock/\(v'.ownBlock=v.ownBlock\/v'.ownBlock=some w.heap.size):=by
 obtain ⟨i,V,hz,d,O⟩:=info_parts I.hi;have ht:=I.ht;have U:=I.hz;have J:=I.h0;obtain ⟨A,c,rfl,hc,hl,D⟩:=hu;rcases A with _ | a
 ·have hm:m=0:=by
   rcases Em m with h | h
   ·exact h
   ·obtain ⟨b,off,e,_⟩:=D h;cases e
  subst hm;have hn:news=[]:=DU (by simpa using hl);subst hn;refine ⟨v,w,?_,by simpa using E,⟨rfl,rfl,rfl,DC _,fun _ _ _=>rfl⟩,.inl rfl⟩;rcases E.2 with ⟨rfl,rfl⟩ | ⟨g,cap,cur,rfl,a8,hg,b2,a9,b0,a5⟩
  ·simp [Builtin.append_,run_underlying ht,sizeOf,typeInfo,V,d,Builtin.lenOf,Builtin.firstCells,loadCells,loadCellsFrom]
  ·have h:=run_append_room_src (P:=Tryz.prog) w t t ty e i ht V g 0 n cap (.slice none 0 c) 0 [] (by rw [d];exact Src.ofNil w ht c) (by omega) (by simp) (by simp);rw [De] at h;simpa using h
 ·rcases Em m with h0 | hmp
  ·subst h0;have hn:news=[]:=DU (by simpa using hl);subst hn;obtain ⟨v',w',h1,h2,h3,h4,h5⟩:=run_append_own_at (P:=Tryz.prog) w base t ty e i z sz bytes ht V hz d O U J v n xs E a 0 c [] (by simp) (by simp) (by simp) M r G;exact ⟨v',w',h1,h2,h3,h5⟩
  ·obtain ⟨b,off,he,_,a2⟩:=D hmp;injection he with he;subst he;obtain ⟨v',w',h1,h2,h3,h4,h5⟩:=run_append_own_at (P:=Tryz.prog) w base t ty e i z sz bytes ht V hz d O U J v n xs E ⟨b,off,none⟩ m c news hl (fun j u hj=>by rw [Addr.add_lit];exact a2 j u hj) h1 M r G;exact ⟨v',w',h1,h2,h3,h5⟩
theorem wp_append_row {o:Oper} (W:World) (s x:Operand) {t e:TypeId} (I:ElemI t e z sz bytes)
  (M:o.op=.call { callee:=.builtin .append,args:=#[s,x],argTypes:=#[t,t] }) (base n m:Nat) (l l2:List Value) (v u:Value) (U:a.eval s=v) (hx:a.eval x=u)
  (r:W.ownsRow base e sz v n l) (V:An W ok sz u m l2) (h1:∀u∈l2,u.oneCell'=true) (d:base<=W.heap.size) (D:n+m<=maxLen) (J:(n+m)*bytes<=140737488355328)
  (h:∀v' w',w'.ownsRow base e sz v' (n+m) (l++l2)->W.grownBy w' v.ownBlock->(v'.ownBlock=v.ownBlock\/v'.ownBlock=some W.heap.size)->K (a.put o.dst v') w'):Oper.wp Tryz.prog o a W K Q:=by
 obtain ⟨v',w',O,h2,E,G⟩:=Di (ok:=ok) W base t o.type e z sz bytes I v n l r u m l2 V h1 D J d;unfold Oper.wp execOp;simp only [M,resolve,invoke,builtin,Sem.run_bind,Sem.run_pure,Result.andThen_ok,List.map_toArray,List.map_cons,List.map_nil,U,hx,O];exact h v' w' h2 E G
theorem BL {rest:List Oper} {o:Oper} (E:o.guard=none) (W:World) (s x:Operand) {t e:TypeId} (I:ElemI t e z sz bytes)
  (O:o.op=.call { callee:=.builtin .append,args:=#[s,x],argTypes:=#[t,t] }) (base n m:Nat) (l l2:List Value) (v u:Value) (U:a.eval s=v) (hx:a.eval x=u)
  (r:W.ownsRow base e sz v n l) (V:An W ok sz u m l2) (h1:∀u∈l2,u.oneCell'=true) (d:base<=W.heap.size) (D:n+m<=maxLen) (M:(n+m)*bytes<=140737488355328)
  (h:∀v' w',w'.ownsRow base e sz v' (n+m) (l++l2)->W.grownBy w' v.ownBlock->(v'.ownBlock=v.ownBlock\/v'.ownBlock=some W.heap.size)->wpList Tryz.prog ops Q rest (a.put o.dst v') w'):wpList Tryz.prog ops Q (o :: rest) a W:=by
 refine wpList_plain E fun K J=>?_
 exact wp_append_row W s x I O base n m l l2 v u U hx r V h1 d D M fun v' w' h1 h2 G=>J _ _ (h v' w' h1 h2 G)
theorem zZ {o:Oper} {E:Prop} (G:o.guard=none) (W:World) (s x:Operand) {t e:TypeId} (I:ElemI t e z sz bytes)
  (M:o.op=.call { callee:=.builtin .append,args:=#[s,x],argTypes:=#[t,t] }) (base n m:Nat) (l l2:List Value) (v u:Value) (O:a.eval s=v) (hx:a.eval x=u)
  (r:W.ownsRow base e sz v n l) (U:An W ok sz u m l2) (h1:∀u∈l2,u.oneCell'=true) (d:base<=W.heap.size) (D:n+m<=maxLen) (J:(n+m)*bytes<=140737488355328)
  (h:∀v' w',w'.ownsRow base e sz v' (n+m) (l++l2)->W.grownBy w' v.ownBlock->(v'.ownBlock=v.ownBlock\/v'.ownBlock=some W.heap.size)->K (a.put o.dst v') w'):
  if Region.wanted o (yielded ops a.tmps)=true then Oper.wp Tryz.prog o a W K Q else E:=by
 have V:Region.wanted o (yielded ops a.tmps)=true:=by simp [Region.wanted,G]
 rw [if_pos V];exact wp_append_row W s x I M base n m l l2 v u O hx r U h1 d D J h
theorem eBools:ElemI 31 32 (.slice none 0 0) 1 24:=⟨Tryz.underlying31,Tryz.infoBools,rfl,by decide⟩
theorem eInt:ElemI 24 3 (.int .i64 0) 1 8:=⟨Tryz.underlying24,Tryz.infoInt,rfl,by decide⟩
theorem own_emptyT (W:World) (B:Nat) (e:TypeId) (sz:Nat) (d:B<=W.heap.size):(W.alloc (.cells #[] e)).ownsRow B e sz (.slice (some ⟨W.heap.size,0,none⟩) 0 0) 0 []:=
 ⟨by simp,.inr ⟨W.heap.size,0,#[],rfl,d,Eo W _,DC _,by decide,by simp,by simp⟩⟩
end
section
open Go.RowKit
attribute [local go_sem ↓] Go.wp_at_zero Go.wp_at_succ
theorem own_kept31 {wr w':World} {B n:Nat} {e:TypeId} {r:Option Nat} (h:wr.ownsRow B e sz v n xs) (I:wr.grownBy w' r) (J:∀b,r=some b->∃t cs,zj wr b t cs/\t≠e):w'.ownsRow B e sz v n xs:=by
 refine h.kept I ?_;rcases h.2 with ⟨rfl,-⟩ | ⟨g,cap,cur,rfl,-,hh,-⟩
 ·exact .inl rfl
 ·right
  intro G;obtain ⟨t,cs,E,D⟩:=J g G.symm;have d:wr.heap[g]?=_:=E;rw [hh] at d;injection d with d;injection d with _ e2 _;exact D e2.symm
end
end Go.Proofs.YtcnaogdgjkpkmaaGreatDoor
