import Derived.Test.YtnmkmhpgnpojbaaGreatDoorWXj
set_option linter.unusedVariables false
set_option linter.unusedSimpArgs false
set_option maxRecDepth 100000
set_option maxHeartbeats 16000000
namespace Go.Proofs.YtnmkmhpgnpojbaaGreatDoor
variable {x:Bool} {l:List Int} {xs:List Value} {r sz:Nat} {o:Obj} {v vF' vT':Value} {w5 w9:World}
section
open Go.RowKit
theorem Tryz.infoTask:(Tryz.prog.info? 113).map (fun i=>(i.zero,i.size,i.bytes))=some (some (.agg #[.string ⟨#[]⟩,.slice none 0 0,.slice none 0 0]),3,64):=by kernel_rfl
theorem Tryz.infoBools:(Tryz.prog.info? 29).map (fun i=>(i.zero,i.size,i.bytes))=some (some (.slice none 0 0),1,24):=by kernel_rfl
def zP (B:Nat) (w:World) (g:Nat):Prop:=B<=g/\∃(v:Value) (k:Nat) (l:List Int),ze w g 163 #[v,.int .i64 k]/\zk w (fun b=>b<B) v l/\l.length<=9223372036854775807/\k<=l.length
section
variable {B:Nat} {w w':World} {g:Nat}
theorem zP.keep (h:zP B w g) (G:Below B w w') (d:w'.heap[g]?=w.heap[g]?):zP B w' g:=by
 obtain ⟨h0,v,k,l,z,D,E⟩:=h;exact ⟨h0,v,k,l,d.trans z,D.keep fun b d I=>G.block b d,E⟩
theorem zP.ext (h:zP B w g) (z:zb w w') (G:B<=w.heap.size):zP B w' g:=by
 obtain ⟨h0,v,k,l,d,D,E⟩:=h;exact ⟨h0,v,k,l,(z.block g (za d)).trans d,D.below z,E⟩
theorem zP.lt (h:zP B w g):g<w.heap.size:=by
 obtain ⟨h0,v,k,l,d,z,D⟩:=h;exact za d
theorem zP.blk (h:zP B w g):∃cs,ze w g 163 cs:=by
 obtain ⟨h0,v,k,l,d,z,D⟩:=h;exact ⟨_,d⟩
theorem zG (n:Int) (h:zP B w g) (z:0<n) (D:n<=1000000):
  Calls Tryz.prog 105 #[.pointer (some ⟨g,0,none⟩),.int .i64 n] w fun e w'=>∃x,e=.returned (.int .i64 x)/\0<=x/\x<n/\zP B w' g/\w.grownBy w' (some g):=by
 obtain ⟨h0,v,k,l,K,E,G,M⟩:=h;refine (draw_calls g k n w K E (by omega) G M z D).mono ?_;rintro e w' ⟨rfl,I,J⟩;refine ⟨_,rfl,?_,?_,⟨h0,v,drawK l k,l,I,E.keep fun b I d=>J.block b d (fun e=>by injection e with e;omega),G,?_⟩,J⟩
 ·unfold drawV
  split
  ·exact Int.emod_nonneg _ (by omega)
  ·exact Int.le_refl _
 ·unfold drawV
  split
  ·exact Int.emod_lt_of_pos _ z
  ·exact z
 ·unfold drawK
  split <;> omega
end
theorem Ai {w w':World} {B:Nat} {e:TypeId} {n:Nat} (h:w.ownsRow B e sz v n xs) (G:∀g,v.ownBlock=some g->w'.heap[g]?=w.heap[g]?):w'.ownsRow B e sz v n xs:=by
 obtain ⟨d,h0 | ⟨g,cap,cur,rfl,z,D,E⟩⟩:=h
 ·exact ⟨d,.inl h0⟩
 ·exact ⟨d,.inr ⟨g,cap,cur,rfl,z,(G g rfl).trans D,E⟩⟩
def OwnB (w:World) (B:Nat) (v:Value) (l:List Bool):Prop:=w.ownsRow B 4 1 v l.length (l.map Value.bool)
theorem OwnB.bools {w:World} {B:Nat} {l:List Bool} (h:OwnB w B v l):AR w (fun b=>B<=b) v l:=Aw.of_own h
def BoolD (w:World) (B S n:Nat) (u:Value):Prop:=∃l,OwnB w B u l/\l.length=n/\∀g,u.ownBlock=some g->g<S
def TaskD (w:World) (B S n:Nat) (u1 u2:Value):Prop:=
 ∃l1 l2,zt w B u1 l1/\zt w B u2 l2/\(l1≠[]/\l2≠[])/\(l1.length<=2/\l2.length<=2)/\(∀x,x∈l1\/x∈l2->0<=x/\x<n)/\(∀g,u1.ownBlock=some g\/u2.ownBlock=some g->g<S)
section
variable {w w':World} {B S S' n:Nat} {u u1 u2:Value}
theorem BoolD.keep (h:BoolD w B S n u) (O:∀g cs,g<S->ze w g 4 cs->w'.heap[g]?=w.heap[g]?) (K:S<=S'):BoolD w' B S' n u:=by
 obtain ⟨l,E,G,d⟩:=h;refine ⟨l,?_,G,fun g M=>DT (d g M) K⟩;obtain ⟨D,h0 | ⟨g,cap,cur,rfl,I,z,J⟩⟩:=E
 ·exact ⟨D,.inl h0⟩
 ·exact ⟨D,.inr ⟨g,cap,cur,rfl,I,(O g cur (d g rfl) z).trans z,J⟩⟩
theorem Bb (h:zt w B v l) (G:∀g cs,v.ownBlock=some g->ze w g 3 cs->w'.heap[g]?=w.heap[g]?):zt w' B v l:=by
 obtain ⟨z,h0 | ⟨g,cap,cur,rfl,D,d,E⟩⟩:=h
 ·exact ⟨z,.inl h0⟩
 ·exact ⟨z,.inr ⟨g,cap,cur,rfl,D,(G g cur rfl d).trans d,E⟩⟩
theorem TaskD.keep (h:TaskD w B S n u1 u2) (E:∀g cs,g<S->ze w g 3 cs->w'.heap[g]?=w.heap[g]?) (O:S<=S'):TaskD w' B S' n u1 u2:=by
 obtain ⟨l1,l2,G,I,J,K,M,z⟩:=h;exact ⟨l1,l2,Bb G (fun g cs d D=>E g cs (z g (.inl d)) D),Bb I (fun g cs d D=>E g cs (z g (.inr d)) D),J,K,M,fun g d=>DT (z g d) O⟩
theorem BoolD.store (h:BoolD w B S n u) (p:Addr) (hp:p.spot=none) (b:Bool):BoolD (w.setCell p (.bool b)) B S n u:=by
 obtain ⟨l,V,D,E⟩:=h;obtain ⟨pb,po,ps⟩:=p;obtain rfl:ps=none:=hp;obtain ⟨G,⟨rfl,h0⟩ | ⟨g,cap,cur,rfl,I,J,K,M,O,Q⟩⟩:=V
 ·exact ⟨l,⟨G,.inl ⟨rfl,h0⟩⟩,D,E⟩
 ·by_cases U:g=pb
  ·subst U;refine ⟨l.set po b,?_,by simpa using D,E⟩;have d:w.ownsRow B 4 1 (.slice (some ⟨g,0,none⟩) l.length cap) l.length (l.map Value.bool):=⟨G,.inr ⟨g,cap,cur,rfl,I,J,K,M,O,Q⟩⟩;have z:=(d.stored po (.bool b)).1;unfold OwnB;rw [List.length_set,List.map_set];exact z
  ·exact ⟨l,⟨G,.inr ⟨g,cap,cur,rfl,I,(DA w ⟨pb,po,none⟩ _ g U).trans J,K,M,O,Q⟩⟩,D,E⟩
end
structure MS (B:Nat) (w:World) (S gm gd:Nat) (W H L:Int) (n tF tT:Nat) (vF vU vT:Value) (fs ts:List Value):Prop where
 hB:B<=w.heap.size
 hS:S<=w.heap.size
 mz:ze w gm 32 #[.int .i64 W,.int .i64 H,.int .i64 L,vF,vU,vT]
 gm0:B<=gm
 dr:zP B w gd
 F:w.ownsRow B 29 1 vF tF fs
 T:w.ownsRow B 113 3 vT tT ts
 fd:∀j,j<tF->∃u,fs[j]?=some u/\BoolD w B S n u
 td:∀j,j<tT->∃s u1 u2,ts[j*3]?=some (.string s)/\ts[j*3+1]?=some u1/\ts[j*3+2]?=some u2/\TaskD w B S n u1 u2
section
variable {B:Nat} {w w':World} {S S' gm gd:Nat} {W H L:Int} {n tF tT:Nat} {vF vU vU' vT:Value} {fs ts:List Value}
theorem MS.keep (h:MS B w S gm gd W H L n tF tT vF vU vT fs ts) (U:w.heap.size<=w'.heap.size) (hm:w'.heap[gm]?=w.heap[gm]?) (hd:zP B w' gd)
  (hk:∀g ty cs,g<w.heap.size->ze w g ty cs->ty=29\/ty=113->g∉([]:List Nat)->w'.heap[g]?=w.heap[g]?) (D:∀g ty cs,g<S->ze w g ty cs->ty=4\/ty=3->w'.heap[g]?=w.heap[g]?) (V:S<=S') (K:S'<=w'.heap.size):
  MS B w' S' gm gd W H L n tF tT vF vU vT fs ts:=by
 refine ⟨Dt h.hB U,K,hm.trans h.mz,h.gm0,hd,?_,?_,fun j Q=>?_,fun j Q=>?_⟩
 ·obtain ⟨E,h0 | ⟨g,cap,cur,rfl,z,d,J⟩⟩:=h.F
  ·exact ⟨E,.inl h0⟩
  ·exact ⟨E,.inr ⟨g,cap,cur,rfl,z,(hk g _ cur (za d) d (.inl rfl) (by simp)).trans d,J⟩⟩
 ·obtain ⟨E,h0 | ⟨g,cap,cur,rfl,z,d,J⟩⟩:=h.T
  ·exact ⟨E,.inl h0⟩
  ·exact ⟨E,.inr ⟨g,cap,cur,rfl,z,(hk g _ cur (za d) d (.inr rfl) (by simp)).trans d,J⟩⟩
 ·obtain ⟨u,G,I⟩:=h.fd j Q;exact ⟨u,G,I.keep (fun g cs O M=>D g _ cs O M (.inl rfl)) V⟩
 ·obtain ⟨s,u1,u2,G,I,h3,z⟩:=h.td j Q;exact ⟨s,u1,u2,G,I,h3,z.keep (fun g cs O M=>D g _ cs O M (.inr rfl)) V⟩
theorem MS.ext (h:MS B w S gm gd W H L n tF tT vF vU vT fs ts) (d:zb w w'):MS B w' w'.heap.size gm gd W H L n tF tT vF vU vT fs ts:=
 h.keep d.size (d.block gm (za h.mz)) (h.dr.ext d h.hB) (fun g _ _ z _ _ _=>d.block g z) (fun g _ _ z _ _=>d.block g (DT z h.hS)) (Dt h.hS d.size) (Dq _)
theorem MS.extS (h:MS B w S gm gd W H L n tF tT vF vU vT fs ts) (d:zb w w'):MS B w' S gm gd W H L n tF tT vF vU vT fs ts:=
 h.keep d.size (d.block gm (za h.mz)) (h.dr.ext d h.hB) (fun g _ _ z _ _ _=>d.block g z) (fun g _ _ z _ _=>d.block g (DT z h.hS)) (Dq _) (Dt h.hS d.size)
theorem MS.drawn (h:MS B w S gm gd W H L n tF tT vF vU vT fs ts) (I:zP B w' gd) (D:w.grownBy w' (some gd)):MS B w' S gm gd W H L n tF tT vF vU vT fs ts:=by
 obtain ⟨cs,G⟩:=h.dr.blk
 have z:∀g ty cs',ze w g ty cs'->ty≠163->w'.heap[g]?=w.heap[g]?:=fun g ty cs' d E=>D.block g (za d) (fun e=>by
  injection e with e;exact ze.ne_ d G E e)
 refine h.keep D.size (z gm _ _ h.mz (by decide)) I (fun g ty cs' _ d ht _=>z g ty cs' d (by rcases ht with rfl | rfl <;> decide)) (fun g ty cs' _ d ht=>z g ty cs' d (by rcases ht with rfl | rfl <;> decide)) (Dq _) (Dt h.hS D.size)
theorem MS.store (h:MS B w S gm gd W H L n tF tT vF vU vT fs ts) {g k:Nat} {cs:Array Value} (hb:ze w g 4 cs) (a1:B<=g) (b:Bool):MS B (w.setCell ⟨g,k,none⟩ (.bool b)) S gm gd W H L n tF tT vF vU vT fs ts:=by
 have D:∀g' ty cs',ze w g' ty cs'->ty≠4->(w.setCell ⟨g,k,none⟩ (.bool b)).heap[g']?=w.heap[g']?:=fun g' ty cs' d Q=>DA w ⟨g,k,none⟩ _ g' (ze.ne_ d hb Q)
 have I:(w.setCell ⟨g,k,none⟩ (.bool b)).heap.size=w.heap.size:=by simp [World.setCell]
 refine ⟨by rw [I];exact h.hB,by rw [I];exact h.hS,(D gm _ _ h.mz (by decide)).trans h.mz,h.gm0,?_,?_,?_,fun j O=>?_,fun j O=>?_⟩
 ·obtain ⟨cs',d⟩:=h.dr.blk;obtain ⟨h0,v,k',l,E,G,J⟩:=h.dr;refine ⟨h0,v,k',l,(D gd _ _ d (by decide)).trans E,?_,J⟩
  exact G.keep fun b' U a3=>DA w ⟨g,k,none⟩ _ b' (by
   show b'≠g;omega)
 ·exact Ai h.F fun g' z=>by
   obtain ⟨hl,⟨rfl,_⟩ | ⟨g2,cap,cur,rfl,K,M,V⟩⟩:=h.F
   ·cases z
   ·have:g2=g':=by simpa [Value.ownBlock] using z
    subst this;exact D g2 _ _ M (by decide)
 ·exact Ai h.T fun g' z=>by
   obtain ⟨hl,⟨rfl,_⟩ | ⟨g2,cap,cur,rfl,K,M,V⟩⟩:=h.T
   ·cases z
   ·have:g2=g':=by simpa [Value.ownBlock] using z
    subst this;exact D g2 _ _ M (by decide)
 ·obtain ⟨u,E,G⟩:=h.fd j O;exact ⟨u,E,G.store _ rfl b⟩
 ·obtain ⟨s,u1,u2,E,G,J,K⟩:=h.td j O;exact ⟨s,u1,u2,E,G,J,K.keep (fun g' cs' _ d=>D g' _ cs' d (by decide)) (Dq _)⟩
theorem MS.addT (h:MS B w S gm gd W H L n tF tT vF vU vT fs ts) {s:ByteArray} {u1 u2:Value} (hd:TaskD w B S n u1 u2) (ho:w5.ownsRow B 113 3 vT' (tT+1) (ts++[.string s,u1,u2])) (V:(w.alloc o).grownBy w5 vT.ownBlock):
  MS B (w5.setCell ⟨gm,5,none⟩ vT') S gm gd W H L n tF (tT+1) vF vU vT' fs (ts++[.string s,u1,u2])/\
   (∀g ty cs,ze w g ty cs->ty≠113->ty≠32->(w5.setCell ⟨gm,5,none⟩ vT').heap[g]?=w.heap[g]?)/\Below B w (w5.setCell ⟨gm,5,none⟩ vT'):=by
 have h1:∀g ty cs,ze w g ty cs->ty≠113->w5.heap[g]?=w.heap[g]?:=fun g ty cs z E=>(V.block g (by have:=za z;simp;omega) (fun e=>zd h.T z (Ne.symm E) e.symm)).trans (DK _ _ _ (za z))
 have M:ze w5 gm 32 #[.int .i64 W,.int .i64 H,.int .i64 L,vF,vU,vT]:=(h1 gm _ _ h.mz (by decide)).trans h.mz;have I:∀g ty cs,ze w g ty cs->ty≠113->ty≠32->(w5.setCell ⟨gm,5,none⟩ vT').heap[g]?=w.heap[g]?:=fun g ty cs z E Q=>(DA w5 ⟨gm,5,none⟩ _ g (ze.ne_ z h.mz Q)).trans (h1 g ty cs z E)
 have O:w.heap.size<=(w5.setCell ⟨gm,5,none⟩ vT').heap.size:=by have:=V.size;simp [World.setCell] at this⊢;omega
 have D:Below B w (w5.setCell ⟨gm,5,none⟩ vT'):=by
  have J:Below B w (w.alloc o):=(Below.refl B w).alloc h.hB _;have G:Below B w w5:=J.grown V (by simp;have:=h.hB;omega) (fun k hk=>(h.T.lt k hk).1);exact G.setCell (p:=⟨gm,5,none⟩) h.gm0 _
 refine ⟨⟨Dt h.hB O,Dt h.hS O,M.set (k:=5) vT',h.gm0,?_,?_,?_,fun j hj=>?_,fun j hj=>?_⟩,I,D⟩
 ·obtain ⟨cs,z⟩:=h.dr.blk;exact h.dr.keep D (I gd _ _ z (by decide) (by decide))
 ·exact Ai h.F fun g d=>by
   obtain ⟨hl,⟨e,_⟩ | ⟨g2,cap,cur,e,G,U,h6⟩⟩:=h.F
   ·rw [e] at d;cases d
   ·rw [e] at d;have:g2=g:=by simpa [Value.ownBlock] using d
    subst this;exact I g2 _ _ U (by decide) (by decide)
 ·exact Ai ho fun g d=>DA w5 ⟨gm,5,none⟩ _ g (fun e=>by
   have e':g=gm:=e;subst e';exact zd ho M (by decide) d)
 ·obtain ⟨u,J,G⟩:=h.fd j hj;exact ⟨u,J,G.keep (fun g cs _ z=>I g _ cs z (by decide) (by decide)) (Dq _)⟩
 ·have a4:ts.length=tT*3:=h.T.1;have K:∀{a b:Value},TaskD w B S n a b->TaskD (w5.setCell ⟨gm,5,none⟩ vT') B S n a b:=fun hh=>hh.keep (fun g cs _ z=>I g _ cs z (by decide) (by decide)) (Dq _)
  rcases DO j tT with hj2 | hj2
  ·obtain ⟨s',a,b,J,G,U,h6⟩:=h.td j hj2;exact ⟨s',a,b,by rw [Dw (by omega)];exact J,by rw [Dw (by omega)];exact G,by rw [Dw (by omega)];exact U,K h6⟩
  ·have a0:j=tT:=by omega
   subst a0;refine ⟨s,u1,u2,?_,?_,?_,K hd⟩
   ·rw [Dx (by omega),show j*3 - ts.length=0 from by omega];rfl
   ·rw [Dx (by omega),show j*3+1 - ts.length=1 from by omega];rfl
   ·rw [Dx (by omega),show j*3+2 - ts.length=2 from by omega];rfl
theorem MS.addF (h:MS B w S gm gd W H L n tF tT vF vU vT fs ts) {u:Value} (hd:BoolD w B S n u) (ho:w5.ownsRow B 29 1 vF' (tF+1) (fs++[u])) (V:(w.alloc o).grownBy w5 vF.ownBlock):
  MS B (w5.setCell ⟨gm,3,none⟩ vF') S gm gd W H L n (tF+1) tT vF' vU vT (fs++[u]) ts/\Below B w (w5.setCell ⟨gm,3,none⟩ vF'):=by
 have h1:∀g ty cs,ze w g ty cs->ty≠29->w5.heap[g]?=w.heap[g]?:=fun g ty cs z E=>(V.block g (by have:=za z;simp;omega) (fun e=>zd h.F z (Ne.symm E) e.symm)).trans (DK _ _ _ (za z))
 have K:ze w5 gm 32 #[.int .i64 W,.int .i64 H,.int .i64 L,vF,vU,vT]:=(h1 gm _ _ h.mz (by decide)).trans h.mz;have Q:∀g ty cs,ze w g ty cs->ty≠29->ty≠32->(w5.setCell ⟨gm,3,none⟩ vF').heap[g]?=w.heap[g]?:=fun g ty cs z E O=>(DA w5 ⟨gm,3,none⟩ _ g (ze.ne_ z h.mz O)).trans (h1 g ty cs z E)
 have M:w.heap.size<=(w5.setCell ⟨gm,3,none⟩ vF').heap.size:=by have:=V.size;simp [World.setCell] at this⊢;omega
 have D:Below B w (w5.setCell ⟨gm,3,none⟩ vF'):=by
  have I:Below B w (w.alloc o):=(Below.refl B w).alloc h.hB _;have G:Below B w w5:=I.grown V (by simp;have:=h.hB;omega) (fun k hk=>(h.F.lt k hk).1);exact G.setCell (p:=⟨gm,3,none⟩) h.gm0 _
 refine ⟨⟨Dt h.hB M,Dt h.hS M,K.set (k:=3) vF',h.gm0,?_,?_,?_,fun j hj=>?_,fun j hj=>?_⟩,D⟩
 ·obtain ⟨cs,z⟩:=h.dr.blk;exact h.dr.keep D (Q gd _ _ z (by decide) (by decide))
 ·exact Ai ho fun g d=>DA w5 ⟨gm,3,none⟩ _ g (fun e=>by
   have e':g=gm:=e;subst e';exact zd ho K (by decide) d)
 ·exact Ai h.T fun g d=>by
   obtain ⟨hl,⟨e,_⟩ | ⟨g2,cap,cur,e,G,U,h6⟩⟩:=h.T
   ·rw [e] at d;cases d
   ·rw [e] at d;have:g2=g:=by simpa [Value.ownBlock] using d
    subst this;exact Q g2 _ _ U (by decide) (by decide)
 ·have a4:fs.length=tF:=by have:=h.F.1;omega
  have J:∀{a:Value},BoolD w B S n a->BoolD (w5.setCell ⟨gm,3,none⟩ vF') B S n a:=fun hh=>hh.keep (fun g cs _ z=>Q g _ cs z (by decide) (by decide)) (Dq _)
  rcases DO j tF with hj2 | hj2
  ·obtain ⟨a,I,G⟩:=h.fd j hj2;exact ⟨a,by rw [Dw (by omega)];exact I,J G⟩
  ·have a0:j=tF:=by omega
   subst a0;exact ⟨u,by rw [Dx (by omega),show j - fs.length=0 from by omega];rfl,J hd⟩
 ·obtain ⟨s,u1,u2,I,G,U,h6⟩:=h.td j hj;exact ⟨s,u1,u2,I,G,U,h6.keep (fun g cs _ z=>Q g _ cs z (by decide) (by decide)) (Dq _)⟩
theorem MS.addU (h:MS B w S gm gd W H L n tF tT vF vU vT fs ts) {us:List Bool} (a7:B<=S) (hu:OwnB w S vU us) (ho:w5.ownsRow S 4 1 vU' (us.length+1) (us.map Value.bool++[.bool x])) (V:(w.alloc o).grownBy w5 vU.ownBlock):
  MS B (w5.setCell ⟨gm,4,none⟩ vU') S gm gd W H L n tF tT vF vU' vT fs ts/\OwnB (w5.setCell ⟨gm,4,none⟩ vU') S vU' (us++[x])/\Below B w (w5.setCell ⟨gm,4,none⟩ vU'):=by
 have h1:∀g ty cs,ze w g ty cs->ty≠4\/g<S->w5.heap[g]?=w.heap[g]?:=fun g ty cs z hty=>(V.block g (by have:=za z;simp;omega) (fun e=>by
  rcases hty with hty | hty
  ·exact zd hu z (Ne.symm hty) e.symm
  ·have:=(World.ownsRow.lt hu g e.symm).1;omega)).trans (DK _ _ _ (za z))
 have J:ze w5 gm 32 #[.int .i64 W,.int .i64 H,.int .i64 L,vF,vU,vT]:=(h1 gm _ _ h.mz (.inl (by decide))).trans h.mz;have O:∀g ty cs,ze w g ty cs->ty≠4\/g<S->ty≠32->(w5.setCell ⟨gm,4,none⟩ vU').heap[g]?=w.heap[g]?:=fun g ty cs z hty M=>(DA w5 ⟨gm,4,none⟩ _ g (ze.ne_ z h.mz M)).trans (h1 g ty cs z hty)
 have K:w.heap.size<=(w5.setCell ⟨gm,4,none⟩ vU').heap.size:=by have:=V.size;simp [World.setCell] at this⊢;omega
 have D:Below B w (w5.setCell ⟨gm,4,none⟩ vU'):=by
  have I:Below B w (w.alloc o):=(Below.refl B w).alloc h.hB _;have G:Below B w w5:=I.grown V (by simp;have:=h.hB;omega) (fun k hk=>by have:=(World.ownsRow.lt hu k hk).1;omega);exact G.setCell (p:=⟨gm,4,none⟩) h.gm0 _
 have E:∀{e:TypeId} {sz k:Nat} {v:Value} {xs:List Value},w.ownsRow B e sz v k xs->e≠4->e≠32->(w5.setCell ⟨gm,4,none⟩ vU').ownsRow B e sz v k xs:=fun hr he U=>Ai hr fun g d=>by
  obtain ⟨hl,⟨e,_⟩ | ⟨g2,cap,cur,e,G,Q,h6⟩⟩:=hr
  ·rw [e] at d;cases d
  ·rw [e] at d;have:g2=g:=by simpa [Value.ownBlock] using d
   subst this;exact O g2 _ _ Q (.inl he) U
 refine ⟨⟨Dt h.hB K,Dt h.hS K,J.set (k:=4) vU',h.gm0,?_,E h.F (by decide) (by decide),E h.T (by decide) (by decide),fun j hj=>?_,fun j hj=>?_⟩,?_,D⟩
 ·obtain ⟨cs,z⟩:=h.dr.blk;exact h.dr.keep D (O gd _ _ z (.inl (by decide)) (by decide))
 ·obtain ⟨u,I,G⟩:=h.fd j hj;exact ⟨u,I,G.keep (fun g cs a0 z=>O g _ cs z (.inr a0) (by decide)) (Dq _)⟩
 ·obtain ⟨s,u1,u2,I,G,Q,h6⟩:=h.td j hj;exact ⟨s,u1,u2,I,G,Q,h6.keep (fun g cs _ z=>O g _ cs z (.inl (by decide)) (by decide)) (Dq _)⟩
 ·unfold OwnB;rw [Dz,DR,Ei]
  exact Ai ho fun g d=>DA w5 ⟨gm,4,none⟩ _ g (fun e=>by
   have e':g=gm:=e;subst e';exact zd ho J (by decide) d)
end
structure R1 (B:Nat) (w:World) (S ge gt n:Nat) (s:ByteArray) (u1 u2:Value) (l1 l2:List Int):Prop where
 hB:B<=S
 hS:S<=w.heap.size
 dr:zP B w ge
 hge:S<=ge
 tk:ze w gt 113 #[.string s,u1,u2]
 hgt:S<=gt
 o1:zt w S u1 l1
 o2:zt w S u2 l2
 ne:u1.ownBlock=none\/u1.ownBlock≠u2.ownBlock
 e1:l1≠[]
 e2:l2≠[]
 rg:∀x,x∈l1\/x∈l2->0<=x/\x<(n:Int)
section
variable {B:Nat} {w w':World} {S ge gt n:Nat} {s:ByteArray} {u1 u2:Value} {l1 l2:List Int}
theorem R1.keep (h:R1 B w S ge gt n s u1 u2 l1 l2) (D:Below B w w') (z:∀g ty cs,ze w g ty cs->ty=163\/ty=113\/ty=3->w'.heap[g]?=w.heap[g]?):R1 B w' S ge gt n s u1 u2 l1 l2:=by
 obtain ⟨cs,d⟩:=h.dr.blk;exact ⟨h.hB,Dt h.hS D.size,h.dr.keep D (z ge _ _ d (.inl rfl)),h.hge,(z gt _ _ h.tk (.inr (.inl rfl))).trans h.tk,h.hgt,Bb h.o1 (fun g cs _ d=>z g _ cs d (.inr (.inr rfl))),Bb h.o2 (fun g cs _ d=>z g _ cs d (.inr (.inr rfl))),h.ne,h.e1,h.e2,h.rg⟩
theorem R1.ext (h:R1 B w S ge gt n s u1 u2 l1 l2) (d:zb w w'):R1 B w' S ge gt n s u1 u2 l1 l2:=
 h.keep (d.mono (Dt h.hB h.hS)) (fun g _ _ z _=>d.block g (za z))
theorem R1.drawn (h:R1 B w S ge gt n s u1 u2 l1 l2) (I:zP B w' ge) (G:w.grownBy w' (some ge)):R1 B w' S ge gt n s u1 u2 l1 l2:=by
 obtain ⟨cs,z⟩:=h.dr.blk
 have d:∀g ty cs',ze w g ty cs'->ty≠163->w'.heap[g]?=w.heap[g]?:=fun g ty cs' D E=>G.block g (za D) (fun e=>by
  injection e with e;exact ze.ne_ D z E e)
 exact ⟨h.hB,Dt h.hS G.size,I,h.hge,(d gt _ _ h.tk (by decide)).trans h.tk,h.hgt,Bb h.o1 (fun g cs _ z=>d g _ cs z (by decide)),Bb h.o2 (fun g cs _ z=>d g _ cs z (by decide)),h.ne,h.e1,h.e2,h.rg⟩
theorem R1.drawnExt {wR:World} (h:R1 B w wR.heap.size ge gt n s u1 u2 l1 l2) (d:zb wR w) (D:w.grownBy w' (some ge)):zb wR w':=
 Below.grown d D d.size (fun k z=>by injection z with z;have:=h.hge;omega)
theorem R1.add1 (h:R1 B w S ge gt n s u1 u2 l1 l2) {u1':Value} {x:Int} (hx:0<=x/\x<(n:Int)) (K:w5.ownsRow S 3 1 u1' (l1.length+1) (l1.map (Value.int .i64)++[.int .i64 x])) (J:(w.alloc o).grownBy w5 u1.ownBlock)
  (hv:u1'.ownBlock=u1.ownBlock\/u1'.ownBlock=some (w.heap.size+1)):R1 B (w5.setCell ⟨gt,1,none⟩ u1') S ge gt n s u1' u2 (l1++[x]) l2/\Below S w (w5.setCell ⟨gt,1,none⟩ u1'):=by
 obtain ⟨cs,d⟩:=h.dr.blk;have Q:∀g ty cs,ze w g ty cs->u1.ownBlock≠some g->w5.heap[g]?=w.heap[g]?:=fun g ty cs d E=>(J.block g (by have:=za d;simp;omega) (fun e=>E e.symm)).trans (DK _ _ _ (za d))
 have G:ze w5 gt 113 #[.string s,u1,u2]:=(Q gt _ _ h.tk (zd h.o1 h.tk (by decide))).trans h.tk;have U:∀g ty cs,ze w g ty cs->u1.ownBlock≠some g->ty≠113->(w5.setCell ⟨gt,1,none⟩ u1').heap[g]?=w.heap[g]?:=fun g ty cs d E O=>(DA w5 ⟨gt,1,none⟩ _ g (ze.ne_ d h.tk O)).trans (Q g ty cs d E)
 have M:w.heap.size<=(w5.setCell ⟨gt,1,none⟩ u1').heap.size:=by have:=J.size;simp [World.setCell] at this⊢;omega
 have z:Below S w (w5.setCell ⟨gt,1,none⟩ u1'):=by
  have V:Below S w (w.alloc o):=(Below.refl S w).alloc h.hS _;have h4:Below S w w5:=V.grown J (by simp;have:=h.hS;omega) (fun k hk=>(World.ownsRow.lt h.o1 k hk).1);exact h4.setCell (p:=⟨gt,1,none⟩) h.hgt _
 refine ⟨⟨h.hB,Dt h.hS M,h.dr.keep (z.mono h.hB) (U ge _ _ d (zd h.o1 d (by decide)) (by decide)),h.hge,G.set (k:=1) u1',h.hgt,?_,?_,?_,by simp,h.e2,?_⟩,z⟩
 ·show World.ownsRow _ _ _ _ _ (l1++[x]).length _;rw [Dz,DR,Ei]
  exact Ai K fun g D=>DA w5 ⟨gt,1,none⟩ _ g (fun e=>by
   have e':g=gt:=e;subst e';exact zd K G (by decide) D)
 ·exact Bb h.o2 (fun g cs D I=>U g _ cs I (fun e=>by
   rcases h.ne with hn | hn
   ·rw [hn] at e;cases e
   ·exact hn (e.trans D.symm)) (by decide))
 ·right
  rcases hv with hv | hv
  ·rw [hv];rcases h.ne with hn | hn
   ·rw [hn] at hv;obtain ⟨g,c,e,_,_⟩:=World.ownsRow.form K (by omega);rw [e] at hv;cases hv
   ·exact hn
  ·rw [hv];intro e;have:=(World.ownsRow.lt h.o2 _ e.symm).2;omega
 ·intro y hy;rcases hy with hy | hy
  ·rcases Eg.1 hy with hy | hy
   ·exact h.rg y (.inl hy)
   ·rw [DY] at hy;rw [hy];exact hx
  ·exact h.rg y (.inr hy)
theorem R1.add2 (h:R1 B w S ge gt n s u1 u2 l1 l2) {u2':Value} {x:Int} (hx:0<=x/\x<(n:Int)) (U:w5.ownsRow S 3 1 u2' (l2.length+1) (l2.map (Value.int .i64)++[.int .i64 x])) (J:(w.alloc o).grownBy w5 u2.ownBlock)
  (hv:u2'.ownBlock=u2.ownBlock\/u2'.ownBlock=some (w.heap.size+1)):R1 B (w5.setCell ⟨gt,2,none⟩ u2') S ge gt n s u1 u2' l1 (l2++[x])/\Below S w (w5.setCell ⟨gt,2,none⟩ u2'):=by
 obtain ⟨cs,z⟩:=h.dr.blk;have O:∀g ty cs,ze w g ty cs->u2.ownBlock≠some g->w5.heap[g]?=w.heap[g]?:=fun g ty cs z E=>(J.block g (by have:=za z;simp;omega) (fun e=>E e.symm)).trans (DK _ _ _ (za z))
 have G:ze w5 gt 113 #[.string s,u1,u2]:=(O gt _ _ h.tk (zd h.o2 h.tk (by decide))).trans h.tk;have Q:∀g ty cs,ze w g ty cs->u2.ownBlock≠some g->ty≠113->(w5.setCell ⟨gt,2,none⟩ u2').heap[g]?=w.heap[g]?:=fun g ty cs z E M=>(DA w5 ⟨gt,2,none⟩ _ g (ze.ne_ z h.tk M)).trans (O g ty cs z E)
 have K:w.heap.size<=(w5.setCell ⟨gt,2,none⟩ u2').heap.size:=by have:=J.size;simp [World.setCell] at this⊢;omega
 have D:Below S w (w5.setCell ⟨gt,2,none⟩ u2'):=by
  have V:Below S w (w.alloc o):=(Below.refl S w).alloc h.hS _;have h4:Below S w w5:=V.grown J (by simp;have:=h.hS;omega) (fun k hk=>(World.ownsRow.lt h.o2 k hk).1);exact h4.setCell (p:=⟨gt,2,none⟩) h.hgt _
 refine ⟨⟨h.hB,Dt h.hS K,h.dr.keep (D.mono h.hB) (Q ge _ _ z (zd h.o2 z (by decide)) (by decide)),h.hge,G.set (k:=2) u2',h.hgt,?_,?_,?_,h.e1,by simp,?_⟩,D⟩
 ·exact Bb h.o1 (fun g cs d I=>Q g _ cs I (fun e=>by
   rcases h.ne with hn | hn
   ·rw [hn] at d;cases d
   ·exact hn (d.trans e.symm)) (by decide))
 ·show World.ownsRow _ _ _ _ _ (l2++[x]).length _;rw [Dz,DR,Ei]
  exact Ai U fun g d=>DA w5 ⟨gt,2,none⟩ _ g (fun e=>by
   have e':g=gt:=e;subst e';exact zd U G (by decide) d)
 ·rcases hv with hv | hv
  ·rw [hv];exact h.ne
  ·by_cases h0:u1.ownBlock=none
   ·exact .inl h0
   ·right
    rw [hv];intro e;have:=(World.ownsRow.lt h.o1 _ e).2;omega
 ·intro y hy;rcases hy with hy | hy
  ·exact h.rg y (.inl hy)
  ·rcases Eg.1 hy with hy | hy
   ·exact h.rg y (.inr hy)
   ·rw [DY] at hy;rw [hy];exact hx
theorem R1.taskD (h:R1 B w S ge gt n s u1 u2 l1 l2) (k1:l1.length<=2) (k2:l2.length<=2):TaskD w B w.heap.size n u1 u2:=
 ⟨l1,l2,World.ownsRow.mono h.o1 h.hB,World.ownsRow.mono h.o2 h.hB,⟨h.e1,h.e2⟩,⟨k1,k2⟩,h.rg,fun g hg=>by
  rcases hg with hg | hg
  ·exact (World.ownsRow.lt h.o1 g hg).2
  ·exact (World.ownsRow.lt h.o2 g hg).2⟩
end
theorem OwnB.app {S:Nat} {v':Value} {l:List Bool} (d:w5.ownsRow S 4 1 v' (l.length+1) (l.map Value.bool++[.bool x])):OwnB w5 S v' (l++[x]):=by
 unfold OwnB;rw [Dz,DR,Ei];exact d
theorem R1.grownB {B:Nat} {w:World} {S S2 ge gt n:Nat} {s:ByteArray} {u1 u2:Value} {l1 l2:List Int} {l:List Bool} (h:R1 B w S ge gt n s u1 u2 l1 l2) (G:OwnB w S2 v l) (J:S<=S2) (E:(w.alloc o).grownBy w5 v.ownBlock):R1 B w5 S ge gt n s u1 u2 l1 l2/\Below S w w5:=by
 have d:Below S w w5:=by
  have I:Below S w (w.alloc o):=(Below.refl S w).alloc h.hS _;exact I.grown E (by simp;have:=h.hS;omega) (fun k K=>Dt J (World.ownsRow.lt G k K).1)
 refine ⟨h.keep (d.mono h.hB) fun g ty cs z D=>?_,d⟩;exact (E.block g (by have:=za z;simp;omega) (fun e=>zd G z (by rcases D with rfl | rfl | rfl <;> decide) e.symm)).trans (DK _ _ _ (za z))
theorem cells3n (w:World) (a b c:Value) (t:TypeId):∀j u,[a,b,c][j]?=some u->(w.alloc (.cells #[a,b,c] t)).cell? ((⟨w.heap.size,0,none⟩:Addr).add j)=some u:=by
 intro j u d;have z:ze (w.alloc (.cells #[a,b,c] t)) w.heap.size t #[a,b,c]:=ze.new _ _ _ rfl
 match j,d with
 | 0,d=>exact z.cell (k:=0) d
 | 1,d=>exact z.cell (k:=1) d
 | 2,d=>exact z.cell (k:=2) d
section
variable {B:Nat} {w:World} {S S2 gm gd ge gt:Nat} {W H L:Int} {n t:Nat} {vF vU vT vf:Value} {fs ts:List Value} {s:ByteArray} {u1 u2:Value} {l1 l2:List Int} {lf:List Bool}
theorem MS.end1 (h:MS B w w.heap.size gm gd W H L n t t vF vU vT fs ts) (M:R1 B w S ge gt n s u1 u2 l1 l2) (k1:l1.length<=2) (k2:l2.length<=2) (z:OwnB w S2 vf lf) (K:w9.ownsRow B 113 3 vT' (t+1) (ts++[.string s,u1,u2])) (J:(w.alloc o).grownBy w9 vT.ownBlock):
  MS B (w9.setCell ⟨gm,5,none⟩ vT') w.heap.size gm gd W H L n t (t+1) vF vU vT' fs (ts++[.string s,u1,u2])/\OwnB (w9.setCell ⟨gm,5,none⟩ vT') S2 vf lf/\Below B w (w9.setCell ⟨gm,5,none⟩ vT'):=by
 obtain ⟨D,E,G⟩:=h.addT (M.taskD k1 k2) K J;refine ⟨D,Ai z fun g d=>?_,G⟩;obtain ⟨U,⟨e,_⟩ | ⟨g2,cap,cur,e,O,I,Q⟩⟩:=z
 ·rw [e] at d;cases d
 ·rw [e] at d;have:g2=g:=by simpa [Value.ownBlock] using d
  subst this;exact E g2 _ _ I (by decide) (by decide)
theorem MS.end2 (h:MS B w S gm gd W H L n t (t+1) vF vU vT fs ts) (I:OwnB w S2 vf lf) (d:lf.length=n) (z:B<=S2) (D:∀g,vf.ownBlock=some g->g<S) (K:w9.ownsRow B 29 1 vF' (t+1) (fs++[vf])) (J:(w.alloc o).grownBy w9 vF.ownBlock):
  MS B (w9.setCell ⟨gm,3,none⟩ vF') (w9.setCell ⟨gm,3,none⟩ vF').heap.size gm gd W H L n (t+1) (t+1) vF' vU vT (fs++[vf]) ts/\Below B w (w9.setCell ⟨gm,3,none⟩ vF'):=by
 obtain ⟨E,G⟩:=h.addF ⟨lf,World.ownsRow.mono I z,d,D⟩ K J;exact ⟨E.ext (zb.refl _),G⟩
theorem MS.c5 (h:MS B w S gm gd W H L n t (t+1) vF vU vT fs ts):w.cell? ⟨gm,3,none⟩=some vF:=h.mz.cell (k:=3) rfl
end
theorem hasB {w:World} {B:Nat} {u:Value} (k:Int) (o:zt w B u l) (z:l.length<=1000):∃b,∀W,zb w W->Calls Tryz.prog 106 #[u,.int .i64 k] W fun e w'=>e=.returned (.bool b)/\W=w':=
 ⟨_,fun W d=>has_calls k W (zk.below (Aw.of_own o) d) (by omega)⟩
theorem own_blkB {w:World} {B n g c:Nat} {e:TypeId} (h:w.ownsRow B e sz (.slice (some ⟨g,0,none⟩) n c) n xs):∃cs,ze w g e cs:=by
 obtain ⟨_,⟨e,_⟩ | ⟨g2,cap,cur,e,_,d,_⟩⟩:=h
 ·cases e
 ·injection e with e _ _;injection e with e;injection e with e;subst e;exact ⟨cur,d⟩
theorem MS.stored {B:Nat} {w1 w:World} {S gm gd g k:Nat} {W H L:Int} {n tF tT:Nat} {vF vU vT:Value} {fs ts:List Value} (h:MS B w S gm gd W H L n tF tT vF vU vT fs ts) (G:zb w1 w) (J:B=w1.heap.size) (d:∃cs,ze w g 4 cs) (I:B<=g) (b:Bool):
  MS B (w.drew.setCell ⟨g,k,none⟩ (.bool b)) (w.drew.setCell ⟨g,k,none⟩ (.bool b)).heap.size gm gd W H L n tF tT vF vU vT fs ts/\zb w1 (w.drew.setCell ⟨g,k,none⟩ (.bool b)):=by
 obtain ⟨cs,d⟩:=d;have D:=h.extS ((zb.refl w).drew);have z:ze w.drew g 4 cs:=d;have E:=D.store (k:=k) z I b;exact ⟨E.ext (zb.refl _),G.drew.setCell (p:=⟨g,k,none⟩) (by show w1.heap.size<=g;omega) _⟩
end
section
open Go.RowKit Go.Shelf
attribute [local go_sem ↓] Go.wp_at_zero Go.wp_at_succ
abbrev Rd:=List UInt8×Bool
def zS (s:Rd):Int×Rd:=match numS 59 s with
 | some (v,b)=>(v,(b,false))
 | none=>(0,([],true))
theorem intF_bound (s:Rd):I64 (zS s).1:=by
 unfold zS numS numP
 split
 ·rename_i v b h
  split at h
  ·cases h
  ·split at h
   ·cases h
   ·split at h
    ·rename_i d
     split at h
     ·injection h with h;injection h with z D;subst z;exact ⟨(Lib.atoiAll_bounds d).1,(Lib.atoiAll_bounds d).2⟩
     ·cases h
    ·cases h
 ·exact ⟨by decide,by decide⟩
theorem Ci (s:Rd):(zS s).2.1.length<=s.1.length/\((zS s).2.2=false->(zS s).2.1.length<s.1.length):=by
 unfold zS numS numP
 split
 ·rename_i v b h
  split at h
  ·cases h
  ·split at h
   ·cases h
   ·rename_i z
    have:=(CL z).2
    split at h
    ·split at h
     ·injection h with h;injection h with D d;subst d;rw [this];exact ⟨by simp;omega,fun _=>by simp;omega⟩
     ·cases h
    ·cases h
 ·exact ⟨by simp,fun h=>by cases h⟩
theorem intF_bad {s:Rd} (h:s.2=true):zS s=(0,([],true)):=by
 unfold zS numS;rw [if_pos h]
theorem rInt_calls {s:Rd} (w:World) (O:zM w) (h:AD w r s) (J:s.1.length<=281474976710656):Calls Tryz.prog 152 #[.pointer (some ⟨r,0,none⟩)] w fun e w'=>e=.returned (.int .i64 (zS s).1)/\zi (·=r) w w'/\AD w' r (zS s).2:=by
 have z:=zh (number_calls 59 w O h J);have d:Hid (∀o,o=numS 59 s->zS s=match o with | some (v,b)=>(v,(b,false)) | none=>(0,([],true))):=fun o Q=>by rw [Q];rfl
 generalize numS 59 s=o at z d;have d:=zh (d.out o rfl);generalize zS s=i at d;clear O h J
 go_enter Tryz.func152,Tryz.ntmps152
 cases o with
 | none=>
  go_wp2_with fail
  refine z.out.mono ?_;rintro e w1 ⟨D,-,K⟩;obtain ⟨rfl,E⟩:=K rfl;have I:=zh E;have G:=zh D;clear D K E z
  go_wp2_with fail
  go_ret;have e:=d.out;subst e;exact ⟨rfl,G.out,I.out⟩
 | some p=>
  obtain ⟨v,b⟩:=p
  go_wp2_with fail
  refine z.out.mono ?_;rintro e w1 ⟨D,M,-⟩;obtain ⟨rfl,E⟩:=M v b rfl;have I:=zh E;have G:=zh D;clear D M E z
  go_wp2_with fail
  go_ret;have e:=d.out;subst e;exact ⟨rfl,G.out,I.out⟩
def BA:Nat->Rd->List Int->List Int×Rd
 | 0,s,l=>(l,s)
 | f+1,s,l=>if Ah s=0\/s.1.head?=some 93 then (l,s) else BA f (zS s).2 (l++[(zS s).1])
def intsE (p:List Int×Rd):List Int×Rd:=if Ah p.2=0 then ([],([],true)) else (p.1,(p.2.1.tail,false))
def Aa (s:Rd):List Int×Rd:=if Ah s=0\/s.1.head?≠some 91 then ([],([],true)) else intsE (BA s.1.tail.length (s.1.tail,false) [])
theorem intF_nil (s:Rd) (h:(zS s).2.2=true):(zS s).2.1=[]:=by
 unfold zS at h⊢
 cases d:numS 59 s with
 | none=>rfl
 | some p=>rw [d] at h;cases h
theorem intF_dec {s:Rd} {n:Nat} (h:s.1.length<=n+1):(zS s).2.1.length<=n:=by
 cases d:(zS s).2.2 with
 | false=>have:=(Ci s).2 d;omega
 | true=>rw [intF_nil s d];simp
def rdSize (r:Nat) (w:World):Nat:=match w.cell? ⟨r,0,none⟩ with
 | some (.string s)=>s.size
 | _=>0
theorem rdSize_of {s:Rd} {w:World} (h:AD w r s):rdSize r w=s.1.length:=by
 unfold rdSize;rw [h.cell (k:=0) rfl];simp [ByteArray.size]
theorem head_get {l:List UInt8} (h:0<l.length):∃x l',l=x :: l'/\(ByteArray.mk l.toArray)[0]'h=x:=by
 cases l with
 | nil=>simp at h
 | cons x l'=>exact ⟨x,l',rfl,rfl⟩
theorem own_chgR {w w':World} {B:Nat} {e t:TypeId} {n:Nat} {cs:Array Value} (h:w.ownsRow B e sz v n xs) (E:ze w r t cs) (d:e≠t) (D:zi (·=r) w w'):w'.ownsRow B e sz v n xs:=
 Ai h fun g z=>D.block g (World.ownsRow.lt h g z).2 (fun e=>by subst e;exact zd h E d z)
theorem chg_below {X:Nat->Prop} {a b c:World} {B:Nat} (h:zi X a b) (d:Below B b c) (E:a.heap.size<=B:=by exact Dq _):zi X a c:=
 ⟨d.os.trans h.os,d.tape.trans h.tape,d.output.trans h.output,Dt h.size d.size,fun k z D=>(d.block k (by omega)).trans (h.block k z D)⟩
theorem elsF_fuel:∀(f f':Nat) (s:Rd) (l:List Int),s.1.length<=f->s.1.length<=f'->BA f s l=BA f' s l
 | 0,0,s,l,_,_=>rfl
 | 0,f'+1,s,l,h,_=>by
  have:s.1=[]:=DJ (by omega);unfold BA;rw [if_pos (.inl (by unfold Ah;rw [this];split <;> rfl))]
 | f+1,0,s,l,_,h=>by
  have:s.1=[]:=DJ (by omega);unfold BA;rw [if_pos (.inl (by unfold Ah;rw [this];split <;> rfl))]
 | f+1,f'+1,s,l,h,d=>by
  unfold BA
  split
  ·rfl
  ·rename_i z
   exact elsF_fuel f f' _ _ (intF_dec h) (intF_dec d)
theorem elsF_step {s:Rd} (h0:Ah s≠0) (z:s.1.head?≠some 93):BA s.1.length s l=BA (zS s).2.1.length (zS s).2 (l++[(zS s).1]):=by
 have d:0<s.1.length:=by
  unfold Ah at h0
  split at h0
  ·exact absurd rfl h0
  ·omega
 obtain ⟨f,hf⟩:∃f,s.1.length=f+1:=⟨s.1.length - 1,by omega⟩;rw [hf,BA,if_neg (fun h=>h.elim h0 z)];exact elsF_fuel _ _ _ _ (intF_dec (by omega)) (Dq _)
theorem elsF_stop {s:Rd} (h:Ah s=0\/s.1.head?=some 93):BA s.1.length s l=(l,s):=by
 cases hf:s.1.length with
 | zero=>rfl
 | succ f=>unfold BA;rw [if_pos h]
theorem elements_calls {s:Rd} (w:World) (hv:zM w) (h:AD w r s) (hl:s.1.length<=1000000000000):Calls Tryz.prog 205 #[.pointer (some ⟨r,0,none⟩),.func (.func 152) #[.pointer (some ⟨r,0,none⟩)] #[]] w fun e w'=>∃v,e=.returned v/\zi (·=r) w w'/\AD w' r (Aa s).2/\zt w' w.heap.size v (Aa s).1:=by
 have HL:=zh (Dh w h);have HF:=zh (Dg w h);obtain ⟨l,bad⟩:=s;have c0:=h.cell (k:=0) rfl;have hf:∀k,w.frozen? ⟨r,k,none⟩=false:=fun k=>h.frozen k
 have HR:=zh h;have HV:=zh hv;dsimp only at HL HR c0 hl;clear h hv
 go_enter Tryz.func205,Tryz.ntmps205
 go_wp2_with fail
 refine HL.out.mono ?_;rintro e w1 ⟨rfl,rfl⟩;by_cases z:Ah (l,bad)=0
 ·have hI:Hid (Aa (l,bad)=([],([],true))):=by (show _=_);unfold Aa;rw [if_pos (.inl z)]
  have d6:(Ah (l,bad):Int)=0:=by omega
  have d7:((Ah (l,bad):Int)==0)=true:=by simp [z]
  go_wp2_with fail
  refine HF.out.mono ?_;rintro e w2 ⟨rfl,hC,hr⟩;have HC:=zh hC;have a1:=zh hr;clear hC hr
  go_wp2_with fail
  go_ret;refine ⟨_,rfl,HC.out,?_,?_⟩
  ·rw [hI.out];exact a1.out
  ·rw [hI.out];exact World.ownsRow_nil _ _ _ _
 ·have d6:((Ah (l,bad):Int)==0)=false:=by simp [z]
  have a2:bad=false:=by cases bad with | false=>rfl | true=>exact absurd rfl z
  subst a2;have a3:0<l.length:=by unfold Ah at z;simp at z;exact List.length_pos_iff.2 z
  have b4:(0:Int)<(l.length:Int):=by omega
  obtain ⟨x,l',J,hx⟩:=head_get a3;by_cases I:x=91
  ·have hq:((((ByteArray.mk l.toArray)[0]'a3).toNat:Int) != 91)=false:=by rw [hx,I];rfl
   have d5:ByteArray.extract ⟨l.toArray⟩ 1 l.length=⟨l'.toArray⟩:=by rw [ext_drop,J];rfl
   have HI:Hid (Aa (l,false)=intsE (BA l'.length (l',false) [])):=by
    (show _=_)
    unfold Aa;rw [if_neg (by rw [J,I];simp [Ah]),J,I];rfl
   have f7:l'.length<=1000000000000:=by rw [J] at hl;simp at hl;omega
   have HS:Hid (zi (·=r) w (w.setCell ⟨r,0,none⟩ (.string ⟨l'.toArray⟩))/\AD (w.setCell ⟨r,0,none⟩ (.string ⟨l'.toArray⟩)) r (l',false)):=⟨CG (X:=(·=r)) (zi.refl _ _) r 0 _ rfl,ze.set (k:=0) HR.out _⟩;clear J hx I z
   go_wp2_with fail
   go_loopw [5] (fun v wr=>∃s' acc,Hid (BA l'.length (l',false) []=BA s'.1.length s' acc)/\Hid (AD wr r s')/\Hid (zt wr w.heap.size v acc)/\Hid (zi (·=r) w wr)/\s'.1.length+acc.length<=l'.length/\∃A c,v=.slice A acc.length c) (fun _ wr=>rdSize r wr)
   case atStart=>exact ⟨(l',false),[],rfl,HS.out.2,World.ownsRow_nil _ _ _ _,HS.out.1,by simp,none,0,rfl⟩
   have c7:=HR;clear HS hq d5 d6 HR HL HF c0 hf b4 hl
   case round=>
    obtain ⟨⟨l1,bad⟩,acc,Q,d,V,M,a6,A,c,rfl⟩:=hrel;have b3:=Dh wr d.out;have c1:=d.out.cell (k:=0) rfl;have f4:∀k,wr.frozen? ⟨r,k,none⟩=false:=fun k=>d.out.frozen k
    have f6:l1.length+acc.length<=l'.length:=a6;dsimp only at b3 c1;have G:=zh b3;clear b3 a6;by_cases z:Ah (l1,bad)=0
    ·have E:Hid (BA l'.length (l',false) []=(acc,(l1,bad))):=Q.out.trans (elsF_stop (.inl z));have d7:((Ah (l1,bad):Int)==0)=true:=by simp [z]
     have e9:¬ ((0:Int)<(Ah (l1,bad):Int)):=by omega
     have e8:decide (0<Ah (l1,bad))=false:=Dv (by omega)
     go_wp2_with fail
     refine G.out.mono ?_;rintro e w2 ⟨rfl,rfl⟩
     go_wp2_with fail
     have b6:=zh (Dg wr d.out);refine G.out.mono ?_;rintro e w3 ⟨rfl,rfl⟩;have HN:Hid (Aa (l,false)=([],([],true))):=by (show _=_);rw [HI.out,E.out];unfold intsE;rw [if_pos z]
     clear G Q E HI V
     go_wp2_with fail
     refine b6.out.mono ?_;rintro e w4 ⟨rfl,hC,hr⟩;have HC:=zh (M.out.tr hC);have a1:=zh hr;clear hC hr b6
     go_wp2_with fail
     go_ret;refine ⟨_,rfl,HC.out,?_,?_⟩
     ·rw [HN.out];exact a1.out
     ·rw [HN.out];exact World.ownsRow_nil _ _ _ _
    ·have a2:bad=false:=by cases bad with | false=>rfl | true=>exact absurd rfl z
     subst a2;have K:0<l1.length:=by unfold Ah at z;simp at z;exact List.length_pos_iff.2 z
     obtain ⟨x,l2,D,hx⟩:=head_get K;have d7:((Ah (l1,false):Int)==0)=false:=by simp [z]
     have e9:(0:Int)<(Ah (l1,false):Int):=by omega
     have e8:decide (0<Ah (l1,false))=true:=Du (by omega);by_cases U:x=93
     ·have hq:((((ByteArray.mk l1.toArray)[0]'K).toNat:Int) != 93)=false:=by rw [hx,U];rfl
      have d5:ByteArray.extract ⟨l1.toArray⟩ 1 l1.length=⟨l2.toArray⟩:=by rw [ext_drop,D];rfl
      have HN:Hid (Aa (l,false)=(acc,(l2,false))):=by
       (show _=_)
       rw [HI.out,Q.out,elsF_stop (.inr (by rw [D,U];rfl))];unfold intsE;rw [if_neg z,D];rfl
      have O:Hid (zi (·=r) w (wr.setCell ⟨r,0,none⟩ (.string ⟨l2.toArray⟩))/\AD (wr.setCell ⟨r,0,none⟩ (.string ⟨l2.toArray⟩)) r (l2,false)):=⟨CG (X:=(·=r)) M.out r 0 _ rfl,ze.set (k:=0) d.out _⟩;have a0:Hid (zt (wr.setCell ⟨r,0,none⟩ (.string ⟨l2.toArray⟩)) w.heap.size (.slice A acc.length c) acc):=own_chgR V.out d.out (by decide) (CG (X:=(·=r)) (zi.refl _ _) r 0 _ rfl);clear HI Q D hx U z V M d
      go_wp2_with fail
      refine G.out.mono ?_;rintro e w2 ⟨rfl,rfl⟩
      go_wp2_with fail
      refine G.out.mono ?_;rintro e w2 ⟨rfl,rfl⟩;clear G
      go_wp2_with fail
      go_ret;refine ⟨_,rfl,O.out.1,?_,?_⟩
      ·rw [HN.out];exact O.out.2
      ·rw [HN.out];exact a0.out
     ·have hq:((((ByteArray.mk l1.toArray)[0]'K).toNat:Int) != 93)=true:=by
       rw [hx,bne_iff_ne];intro h;exact U (UInt8.toNat_inj.1 (by simpa using Int.ofNat.inj h))
      have E:Hid (BA l'.length (l',false) []=BA (zS (l1,false)).2.1.length (zS (l1,false)).2 (acc++[(zS (l1,false)).1])):=Q.out.trans (elsF_step z (by rw [D];simpa using U));have c9:(zS (l1,false)).2.1.length+1<=l1.length:=by have:=intF_dec (s:=(l1,false)) (n:=l1.length - 1) (by show l1.length<=_;omega);omega
      have a9:=zh (rInt_calls wr (Bt HV.out M.out (var_ne HV.out c7.out)) d.out (by show l1.length<=_;omega));obtain ⟨y,hy⟩:=Ez (zS (l1,false));rw [<-hy] at E a9 c9;have e6:Hid (rdSize r wr=l1.length):=rdSize_of d.out;have f1:acc.length<=1000000000000:=by omega
      clear HI Q D hx U z hy
      go_wp2_with fail
      refine G.out.mono ?_;rintro e w2 ⟨rfl,rfl⟩;clear G
      go_wp2_with fail
      refine a9.out.mono ?_;rintro e w3 ⟨rfl,b1,c8⟩;have a0:Hid (zt w3 w.heap.size (.slice A acc.length c) acc):=own_chgR V.out d.out (by decide) b1;have O:=zh (M.out.tr b1);have b9:=zh c8;clear b1 c8 a9 V M d;have a8:w.heap.size<=w3.heap.size:=O.out.size
      go_wp2_with (at_builtin;refine CU rfl _ _ rfl _ acc y.1 w.heap.size w3.heap.size 1 _ rfl rfl (a0.out.alloc _) ?d1 ?d2 ?d3 ?_)
      (try case d1=>exact zR _ _ _ (by simp))
      case d2=>(first | (simp;done) | (simp;omega) | omega)
      case d3=>omega
      intro v' w4 b2 d4 e7;have b0:Below w.heap.size w3 w4:=((Below.refl _ w3).alloc a8 _).grown d4.out (by simp;omega) (fun k hk=>(a0.out.lt k hk).1);have e1:Hid (zi (·=r) w w4):=chg_below O.out b0;have c6:Hid (AD w4 r y.2):=ze.below b9.out b0 (za c7.out);obtain ⟨A4,c4,rfl,-⟩:=AV b2;have e4:=zh b2;clear b2 d4 e7 b0 O b9 a0 a8;go_wp2;go_roundw
      case rel=>exact ⟨y.2,acc++[y.1],E,c6,e4,e1,by simp;omega,A4,c4,by simp⟩
      case measure=>rw [rdSize_of c6.out,e6.out];omega
  ·have hq:((((ByteArray.mk l.toArray)[0]'a3).toNat:Int) != 91)=true:=by
    rw [hx,bne_iff_ne];intro h;exact I (UInt8.toNat_inj.1 (by simpa using Int.ofNat.inj h))
   have hI:Hid (Aa (l,false)=([],([],true))):=by (show _=_);unfold Aa;rw [if_pos (.inr (by rw [J];simpa using I))]
   clear J hx I z
   go_wp2_with fail
   refine HF.out.mono ?_;rintro e w2 ⟨rfl,hC,hr⟩;have HC:=zh hC;have a1:=zh hr;clear hC hr
   go_wp2_with fail
   go_ret;refine ⟨_,rfl,HC.out,?_,?_⟩
   ·rw [hI.out];exact a1.out
   ·rw [hI.out];exact World.ownsRow_nil _ _ _ _
theorem rInts_calls {s:Rd} (w:World) (G:zM w) (h:AD w r s) (J:s.1.length<=1000000000000):Calls Tryz.prog 153 #[.pointer (some ⟨r,0,none⟩)] w fun e w'=>∃v,e=.returned v/\zi (·=r) w w'/\AD w' r (Aa s).2/\zt w' w.heap.size v (Aa s).1:=by
 have z:=zh (elements_calls w G h J);generalize Aa s=i at z⊢;clear G h
 go_enter Tryz.func153,Tryz.ntmps153
 go_wp2_with fail
 refine z.out.mono ?_;rintro e w1 ⟨v,rfl,D,E,d⟩;obtain ⟨A,c,rfl,-⟩:=AV d;have I:=zh (And.intro D (And.intro E d));clear D E d
 go_wp2_with fail
 go_ret;exact ⟨_,rfl,I.out⟩
end
end Go.Proofs.YtnmkmhpgnpojbaaGreatDoor
