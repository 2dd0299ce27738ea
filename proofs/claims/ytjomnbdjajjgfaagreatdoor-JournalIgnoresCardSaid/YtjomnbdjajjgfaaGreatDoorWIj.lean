import Derived.Test.YtjomnbdjajjgfaaGreatDoorWIi
set_option linter.unusedVariables false
set_option linter.unusedSimpArgs false
set_option maxRecDepth 100000
set_option maxHeartbeats 16000000
namespace Go.Proofs.YtjomnbdjajjgfaaGreatDoor
variable {x:Bool} {l:List Int} {xs:List Value} {r sz:Nat} {o:Obj} {v vF' vT':Value} {w5 w9:World}
section
open Go.RowKit
theorem Tryz.infoTask:(Tryz.prog.info? 87).map (fun i=>(i.zero,i.size,i.bytes))=some (some (.agg #[.string ⟨#[]⟩,.slice none 0 0,.slice none 0 0]),3,64):=by kernel_rfl
theorem Tryz.infoBools:(Tryz.prog.info? 29).map (fun i=>(i.zero,i.size,i.bytes))=some (some (.slice none 0 0),1,24):=by kernel_rfl
def zT (B:Nat) (w:World) (g:Nat):Prop:=B<=g/\∃(v:Value) (k:Nat) (l:List Int),zl w g 118 #[v,.int .i64 k]/\zk w (fun b=>b<B) v l/\l.length<=9223372036854775807/\k<=l.length
section
variable {B:Nat} {w w':World} {g:Nat}
theorem zT.keep (h:zT B w g) (D:Below B w w') (d:w'.heap[g]?=w.heap[g]?):zT B w' g:=by
 obtain ⟨h0,v,k,l,h1,h2,h3⟩:=h;exact ⟨h0,v,k,l,d.trans h1,h2.keep fun b d E=>D.block b d,h3⟩
theorem zT.ext (h:zT B w g) (d:za w w') (D:B<=w.heap.size):zT B w' g:=by
 obtain ⟨h0,v,k,l,h1,h2,h3⟩:=h;exact ⟨h0,v,k,l,(d.block g (zc h1)).trans h1,h2.below d,h3⟩
theorem zT.lt (h:zT B w g):g<w.heap.size:=by
 obtain ⟨h0,v,k,l,h1,h2,h3⟩:=h;exact zc h1
theorem zT.blk (h:zT B w g):∃cs,zl w g 118 cs:=by
 obtain ⟨h0,v,k,l,h1,h2,h3⟩:=h;exact ⟨_,h1⟩
theorem zQ (n:Int) (h:zT B w g) (D:0<n) (E:n<=1000000):
  Calls Tryz.prog 72 #[.pointer (some ⟨g,0,none⟩),.int .i64 n] w fun e w'=>∃x,e=.returned (.int .i64 x)/\0<=x/\x<n/\zT B w' g/\w.grownBy w' (some g):=by
 obtain ⟨h0,v,k,l,h1,h2,h3,J⟩:=h;refine (draw_calls g k n w h1 h2 (by omega) h3 J D E).mono ?_;rintro e w' ⟨rfl,G,I⟩;refine ⟨_,rfl,?_,?_,⟨h0,v,drawK l k,l,G,h2.keep fun b G d=>I.block b d (fun e=>by injection e with e;omega),h3,?_⟩,I⟩
 ·unfold drawV
  split
  ·exact Int.emod_nonneg _ (by omega)
  ·exact Int.le_refl _
 ·unfold drawV
  split
  ·exact Int.emod_lt_of_pos _ D
  ·exact D
 ·unfold drawK
  split <;> omega
end
theorem AP {w w':World} {B:Nat} {e:TypeId} {n:Nat} (h:w.ownsRow B e sz v n xs) (D:∀g,v.ownBlock=some g->w'.heap[g]?=w.heap[g]?):w'.ownsRow B e sz v n xs:=by
 obtain ⟨d,h0 | ⟨g,cap,cur,rfl,h1,h2,h3⟩⟩:=h
 ·exact ⟨d,.inl h0⟩
 ·exact ⟨d,.inr ⟨g,cap,cur,rfl,h1,(D g rfl).trans h2,h3⟩⟩
def OwnB (w:World) (B:Nat) (v:Value) (l:List Bool):Prop:=w.ownsRow B 4 1 v l.length (l.map Value.bool)
theorem OwnB.bools {w:World} {B:Nat} {l:List Bool} (h:OwnB w B v l):Be w (fun b=>B<=b) v l:=Bv.of_own h
def BoolD (w:World) (B S n:Nat) (u:Value):Prop:=∃l,OwnB w B u l/\l.length=n/\∀g,u.ownBlock=some g->g<S
def TaskD (w:World) (B S n:Nat) (u1 u2:Value):Prop:=
 ∃l1 l2,zL w B u1 l1/\zL w B u2 l2/\(l1≠[]/\l2≠[])/\(l1.length<=2/\l2.length<=2)/\(∀x,x∈l1\/x∈l2->0<=x/\x<n)/\(∀g,u1.ownBlock=some g\/u2.ownBlock=some g->g<S)
section
variable {w w':World} {B S S' n:Nat} {u u1 u2:Value}
theorem BoolD.keep (h:BoolD w B S n u) (K:∀g cs,g<S->zl w g 4 cs->w'.heap[g]?=w.heap[g]?) (I:S<=S'):BoolD w' B S' n u:=by
 obtain ⟨l,h1,h2,h3⟩:=h;refine ⟨l,?_,h2,fun g J=>EA (h3 g J) I⟩;obtain ⟨D,h0 | ⟨g,cap,cur,rfl,E,d,G⟩⟩:=h1
 ·exact ⟨D,.inl h0⟩
 ·exact ⟨D,.inr ⟨g,cap,cur,rfl,E,(K g cur (h3 g rfl) d).trans d,G⟩⟩
theorem BA (h:zL w B v l) (I:∀g cs,v.ownBlock=some g->zl w g 3 cs->w'.heap[g]?=w.heap[g]?):zL w' B v l:=by
 obtain ⟨D,h0 | ⟨g,cap,cur,rfl,E,d,G⟩⟩:=h
 ·exact ⟨D,.inl h0⟩
 ·exact ⟨D,.inr ⟨g,cap,cur,rfl,E,(I g cur rfl d).trans d,G⟩⟩
theorem TaskD.keep (h:TaskD w B S n u1 u2) (G:∀g cs,g<S->zl w g 3 cs->w'.heap[g]?=w.heap[g]?) (K:S<=S'):TaskD w' B S' n u1 u2:=by
 obtain ⟨l1,l2,h1,h2,h3,I,J,D⟩:=h;exact ⟨l1,l2,BA h1 (fun g cs d E=>G g cs (D g (.inl d)) E),BA h2 (fun g cs d E=>G g cs (D g (.inr d)) E),h3,I,J,fun g d=>EA (D g d) K⟩
theorem BoolD.store (h:BoolD w B S n u) (p:Addr) (hp:p.spot=none) (b:Bool):BoolD (w.setCell p (.bool b)) B S n u:=by
 obtain ⟨l,h1,h2,h3⟩:=h;obtain ⟨pb,po,ps⟩:=p;obtain rfl:ps=none:=hp;obtain ⟨E,⟨rfl,h0⟩ | ⟨g,cap,cur,rfl,G,I,J,K,M,O⟩⟩:=h1
 ·exact ⟨l,⟨E,.inl ⟨rfl,h0⟩⟩,h2,h3⟩
 ·by_cases Q:g=pb
  ·subst Q;refine ⟨l.set po b,?_,by simpa using h2,h3⟩;have d:w.ownsRow B 4 1 (.slice (some ⟨g,0,none⟩) l.length cap) l.length (l.map Value.bool):=⟨E,.inr ⟨g,cap,cur,rfl,G,I,J,K,M,O⟩⟩;have D:=(d.stored po (.bool b)).1;unfold OwnB;rw [List.length_set,List.map_set];exact D
  ·exact ⟨l,⟨E,.inr ⟨g,cap,cur,rfl,G,(Eh w ⟨pb,po,none⟩ _ g Q).trans I,J,K,M,O⟩⟩,h2,h3⟩
end
structure MS (B:Nat) (w:World) (S gm gd:Nat) (W H L:Int) (n tF tT:Nat) (vF vU vT:Value) (fs ts:List Value):Prop where
 hB:B<=w.heap.size
 hS:S<=w.heap.size
 mz:zl w gm 32 #[.int .i64 W,.int .i64 H,.int .i64 L,vF,vU,vT]
 gm0:B<=gm
 dr:zT B w gd
 F:w.ownsRow B 29 1 vF tF fs
 T:w.ownsRow B 87 3 vT tT ts
 fd:∀j,j<tF->∃u,fs[j]?=some u/\BoolD w B S n u
 td:∀j,j<tT->∃(s:NetS) (u1 u2:Value),ts[j*3]?=some (.string s)/\ts[j*3+1]?=some u1/\ts[j*3+2]?=some u2/\TaskD w B S n u1 u2
section
variable {B:Nat} {w w':World} {S S' gm gd:Nat} {W H L:Int} {n tF tT:Nat} {vF vU vU' vT:Value} {fs ts:List Value}
theorem MS.keep (h:MS B w S gm gd W H L n tF tT vF vU vT fs ts) (Q:w.heap.size<=w'.heap.size) (hm:w'.heap[gm]?=w.heap[gm]?) (hd:zT B w' gd)
  (V:∀g ty cs,g<w.heap.size->zl w g ty cs->ty=29\/ty=87->g∉([]:List Nat)->w'.heap[g]?=w.heap[g]?) (E:∀g ty cs,g<S->zl w g ty cs->ty=4\/ty=3->w'.heap[g]?=w.heap[g]?) (U:S<=S') (J:S'<=w'.heap.size):
  MS B w' S' gm gd W H L n tF tT vF vU vT fs ts:=by
 refine ⟨Ea h.hB Q,J,hm.trans h.mz,h.gm0,hd,?_,?_,fun j O=>?_,fun j O=>?_⟩
 ·obtain ⟨G,h0 | ⟨g,cap,cur,rfl,D,d,I⟩⟩:=h.F
  ·exact ⟨G,.inl h0⟩
  ·exact ⟨G,.inr ⟨g,cap,cur,rfl,D,(V g _ cur (zc d) d (.inl rfl) (by simp)).trans d,I⟩⟩
 ·obtain ⟨G,h0 | ⟨g,cap,cur,rfl,D,d,I⟩⟩:=h.T
  ·exact ⟨G,.inl h0⟩
  ·exact ⟨G,.inr ⟨g,cap,cur,rfl,D,(V g _ cur (zc d) d (.inr rfl) (by simp)).trans d,I⟩⟩
 ·obtain ⟨u,h1,h2⟩:=h.fd j O;exact ⟨u,h1,h2.keep (fun g cs M K=>E g _ cs M K (.inl rfl)) U⟩
 ·obtain ⟨s,u1,u2,h1,h2,h3,D⟩:=h.td j O;exact ⟨s,u1,u2,h1,h2,h3,D.keep (fun g cs M K=>E g _ cs M K (.inr rfl)) U⟩
theorem MS.ext (h:MS B w S gm gd W H L n tF tT vF vU vT fs ts) (d:za w w'):MS B w' w'.heap.size gm gd W H L n tF tT vF vU vT fs ts:=
 h.keep d.size (d.block gm (zc h.mz)) (h.dr.ext d h.hB) (fun g _ _ D _ _ _=>d.block g D) (fun g _ _ D _ _=>d.block g (EA D h.hS)) (Ea h.hS d.size) (DY _)
theorem MS.extS (h:MS B w S gm gd W H L n tF tT vF vU vT fs ts) (d:za w w'):MS B w' S gm gd W H L n tF tT vF vU vT fs ts:=
 h.keep d.size (d.block gm (zc h.mz)) (h.dr.ext d h.hB) (fun g _ _ D _ _ _=>d.block g D) (fun g _ _ D _ _=>d.block g (EA D h.hS)) (DY _) (Ea h.hS d.size)
theorem MS.drawn (h:MS B w S gm gd W H L n tF tT vF vU vT fs ts) (J:zT B w' gd) (E:w.grownBy w' (some gd)):MS B w' S gm gd W H L n tF tT vF vU vT fs ts:=by
 obtain ⟨cs,I⟩:=h.dr.blk
 have D:∀g ty cs',zl w g ty cs'->ty≠118->w'.heap[g]?=w.heap[g]?:=fun g ty cs' d G=>E.block g (zc d) (fun e=>by
  injection e with e;exact zl.ne_ d I G e)
 refine h.keep E.size (D gm _ _ h.mz (by decide)) J (fun g ty cs' _ d ht _=>D g ty cs' d (by rcases ht with rfl | rfl <;> decide)) (fun g ty cs' _ d ht=>D g ty cs' d (by rcases ht with rfl | rfl <;> decide)) (DY _) (Ea h.hS E.size)
theorem MS.store (h:MS B w S gm gd W H L n tF tT vF vU vT fs ts) {g k:Nat} {cs:Array Value} (U:zl w g 4 cs) (V:B<=g) (b:Bool):MS B (w.setCell ⟨g,k,none⟩ (.bool b)) S gm gd W H L n tF tT vF vU vT fs ts:=by
 have E:∀g' ty cs',zl w g' ty cs'->ty≠4->(w.setCell ⟨g,k,none⟩ (.bool b)).heap[g']?=w.heap[g']?:=fun g' ty cs' d M=>Eh w ⟨g,k,none⟩ _ g' (zl.ne_ d U M)
 have G:(w.setCell ⟨g,k,none⟩ (.bool b)).heap.size=w.heap.size:=by simp [World.setCell]
 refine ⟨by rw [G];exact h.hB,by rw [G];exact h.hS,(E gm _ _ h.mz (by decide)).trans h.mz,h.gm0,?_,?_,?_,fun j K=>?_,fun j K=>?_⟩
 ·obtain ⟨cs',d⟩:=h.dr.blk;obtain ⟨h0,v,k',l,h1,h2,h3⟩:=h.dr;refine ⟨h0,v,k',l,(E gd _ _ d (by decide)).trans h1,?_,h3⟩
  exact h2.keep fun b' O a1=>Eh w ⟨g,k,none⟩ _ b' (by
   show b'≠g;omega)
 ·exact AP h.F fun g' D=>by
   obtain ⟨hl,⟨rfl,_⟩ | ⟨g2,cap,cur,rfl,I,J,Q⟩⟩:=h.F
   ·cases D
   ·have:g2=g':=by simpa [Value.ownBlock] using D
    subst this;exact E g2 _ _ J (by decide)
 ·exact AP h.T fun g' D=>by
   obtain ⟨hl,⟨rfl,_⟩ | ⟨g2,cap,cur,rfl,I,J,Q⟩⟩:=h.T
   ·cases D
   ·have:g2=g':=by simpa [Value.ownBlock] using D
    subst this;exact E g2 _ _ J (by decide)
 ·obtain ⟨u,h1,h2⟩:=h.fd j K;exact ⟨u,h1,h2.store _ rfl b⟩
 ·obtain ⟨s,u1,u2,h1,h2,h3,I⟩:=h.td j K;exact ⟨s,u1,u2,h1,h2,h3,I.keep (fun g' cs' _ d=>E g' _ cs' d (by decide)) (DY _)⟩
theorem MS.addT (h:MS B w S gm gd W H L n tF tT vF vU vT fs ts) {s:NetS} {u1 u2:Value} (hd:TaskD w B S n u1 u2) (ho:w5.ownsRow B 87 3 vT' (tT+1) (ts++[.string s,u1,u2])) (U:(w.alloc o).grownBy w5 vT.ownBlock):
  MS B (w5.setCell ⟨gm,5,none⟩ vT') S gm gd W H L n tF (tT+1) vF vU vT' fs (ts++[.string s,u1,u2])/\
   (∀g ty cs,zl w g ty cs->ty≠87->ty≠32->(w5.setCell ⟨gm,5,none⟩ vT').heap[g]?=w.heap[g]?)/\Below B w (w5.setCell ⟨gm,5,none⟩ vT'):=by
 have h1:∀g ty cs,zl w g ty cs->ty≠87->w5.heap[g]?=w.heap[g]?:=fun g ty cs D G=>(U.block g (by have:=zc D;simp;omega) (fun e=>zf h.T D (Ne.symm G) e.symm)).trans (Er _ _ _ (zc D))
 have K:zl w5 gm 32 #[.int .i64 W,.int .i64 H,.int .i64 L,vF,vU,vT]:=(h1 gm _ _ h.mz (by decide)).trans h.mz;have h2:∀g ty cs,zl w g ty cs->ty≠87->ty≠32->(w5.setCell ⟨gm,5,none⟩ vT').heap[g]?=w.heap[g]?:=fun g ty cs D G O=>(Eh w5 ⟨gm,5,none⟩ _ g (zl.ne_ D h.mz O)).trans (h1 g ty cs D G)
 have M:w.heap.size<=(w5.setCell ⟨gm,5,none⟩ vT').heap.size:=by have:=U.size;simp [World.setCell] at this⊢;omega
 have E:Below B w (w5.setCell ⟨gm,5,none⟩ vT'):=by
  have h3:Below B w (w.alloc o):=(Below.refl B w).alloc h.hB _;have I:Below B w w5:=h3.grown U (by simp;have:=h.hB;omega) (fun k hk=>(h.T.lt k hk).1);exact I.setCell (p:=⟨gm,5,none⟩) h.gm0 _
 refine ⟨⟨Ea h.hB M,Ea h.hS M,K.set (k:=5) vT',h.gm0,?_,?_,?_,fun j hj=>?_,fun j hj=>?_⟩,h2,E⟩
 ·obtain ⟨cs,D⟩:=h.dr.blk;exact h.dr.keep E (h2 gd _ _ D (by decide) (by decide))
 ·exact AP h.F fun g d=>by
   obtain ⟨hl,⟨e,_⟩ | ⟨g2,cap,cur,e,I,Q,h6⟩⟩:=h.F
   ·rw [e] at d;cases d
   ·rw [e] at d;have:g2=g:=by simpa [Value.ownBlock] using d
    subst this;exact h2 g2 _ _ Q (by decide) (by decide)
 ·exact AP ho fun g d=>Eh w5 ⟨gm,5,none⟩ _ g (fun e=>by
   have e':g=gm:=e;subst e';exact zf ho K (by decide) d)
 ·obtain ⟨u,h3,I⟩:=h.fd j hj;exact ⟨u,h3,I.keep (fun g cs _ D=>h2 g _ cs D (by decide) (by decide)) (DY _)⟩
 ·have a2:ts.length=tT*3:=h.T.1;have J:∀{a b:Value},TaskD w B S n a b->TaskD (w5.setCell ⟨gm,5,none⟩ vT') B S n a b:=fun hh=>hh.keep (fun g cs _ D=>h2 g _ cs D (by decide) (by decide)) (DY _)
  rcases Ev j tT with hj2 | hj2
  ·obtain ⟨s',a,b,h3,I,Q,h6⟩:=h.td j hj2;exact ⟨s',a,b,by rw [Ed (by omega)];exact h3,by rw [Ed (by omega)];exact I,by rw [Ed (by omega)];exact Q,J h6⟩
  ·have V:j=tT:=by omega
   subst V;refine ⟨s,u1,u2,?_,?_,?_,J hd⟩
   ·rw [Ee (by omega),show j*3 - ts.length=0 from by omega];rfl
   ·rw [Ee (by omega),show j*3+1 - ts.length=1 from by omega];rfl
   ·rw [Ee (by omega),show j*3+2 - ts.length=2 from by omega];rfl
theorem MS.addF (h:MS B w S gm gd W H L n tF tT vF vU vT fs ts) {u:Value} (hd:BoolD w B S n u) (ho:w5.ownsRow B 29 1 vF' (tF+1) (fs++[u])) (U:(w.alloc o).grownBy w5 vF.ownBlock):
  MS B (w5.setCell ⟨gm,3,none⟩ vF') S gm gd W H L n (tF+1) tT vF' vU vT (fs++[u]) ts/\Below B w (w5.setCell ⟨gm,3,none⟩ vF'):=by
 have h1:∀g ty cs,zl w g ty cs->ty≠29->w5.heap[g]?=w.heap[g]?:=fun g ty cs D G=>(U.block g (by have:=zc D;simp;omega) (fun e=>zf h.F D (Ne.symm G) e.symm)).trans (Er _ _ _ (zc D))
 have K:zl w5 gm 32 #[.int .i64 W,.int .i64 H,.int .i64 L,vF,vU,vT]:=(h1 gm _ _ h.mz (by decide)).trans h.mz;have h2:∀g ty cs,zl w g ty cs->ty≠29->ty≠32->(w5.setCell ⟨gm,3,none⟩ vF').heap[g]?=w.heap[g]?:=fun g ty cs D G O=>(Eh w5 ⟨gm,3,none⟩ _ g (zl.ne_ D h.mz O)).trans (h1 g ty cs D G)
 have M:w.heap.size<=(w5.setCell ⟨gm,3,none⟩ vF').heap.size:=by have:=U.size;simp [World.setCell] at this⊢;omega
 have E:Below B w (w5.setCell ⟨gm,3,none⟩ vF'):=by
  have h3:Below B w (w.alloc o):=(Below.refl B w).alloc h.hB _;have I:Below B w w5:=h3.grown U (by simp;have:=h.hB;omega) (fun k hk=>(h.F.lt k hk).1);exact I.setCell (p:=⟨gm,3,none⟩) h.gm0 _
 refine ⟨⟨Ea h.hB M,Ea h.hS M,K.set (k:=3) vF',h.gm0,?_,?_,?_,fun j hj=>?_,fun j hj=>?_⟩,E⟩
 ·obtain ⟨cs,D⟩:=h.dr.blk;exact h.dr.keep E (h2 gd _ _ D (by decide) (by decide))
 ·exact AP ho fun g d=>Eh w5 ⟨gm,3,none⟩ _ g (fun e=>by
   have e':g=gm:=e;subst e';exact zf ho K (by decide) d)
 ·exact AP h.T fun g d=>by
   obtain ⟨hl,⟨e,_⟩ | ⟨g2,cap,cur,e,I,Q,h6⟩⟩:=h.T
   ·rw [e] at d;cases d
   ·rw [e] at d;have:g2=g:=by simpa [Value.ownBlock] using d
    subst this;exact h2 g2 _ _ Q (by decide) (by decide)
 ·have a2:fs.length=tF:=by have:=h.F.1;omega
  have J:∀{a:Value},BoolD w B S n a->BoolD (w5.setCell ⟨gm,3,none⟩ vF') B S n a:=fun hh=>hh.keep (fun g cs _ D=>h2 g _ cs D (by decide) (by decide)) (DY _)
  rcases Ev j tF with hj2 | hj2
  ·obtain ⟨a,h3,I⟩:=h.fd j hj2;exact ⟨a,by rw [Ed (by omega)];exact h3,J I⟩
  ·have V:j=tF:=by omega
   subst V;exact ⟨u,by rw [Ee (by omega),show j - fs.length=0 from by omega];rfl,J hd⟩
 ·obtain ⟨s,u1,u2,h3,I,Q,h6⟩:=h.td j hj;exact ⟨s,u1,u2,h3,I,Q,h6.keep (fun g cs _ D=>h2 g _ cs D (by decide) (by decide)) (DY _)⟩
theorem MS.addU (h:MS B w S gm gd W H L n tF tT vF vU vT fs ts) {us:List Bool} (a5:B<=S) (hu:OwnB w S vU us) (ho:w5.ownsRow S 4 1 vU' (us.length+1) (us.map Value.bool++[.bool x])) (U:(w.alloc o).grownBy w5 vU.ownBlock):
  MS B (w5.setCell ⟨gm,4,none⟩ vU') S gm gd W H L n tF tT vF vU' vT fs ts/\OwnB (w5.setCell ⟨gm,4,none⟩ vU') S vU' (us++[x])/\Below B w (w5.setCell ⟨gm,4,none⟩ vU'):=by
 have h1:∀g ty cs,zl w g ty cs->ty≠4\/g<S->w5.heap[g]?=w.heap[g]?:=fun g ty cs D hty=>(U.block g (by have:=zc D;simp;omega) (fun e=>by
  rcases hty with hty | hty
  ·exact zf hu D (Ne.symm hty) e.symm
  ·have:=(World.ownsRow.lt hu g e.symm).1;omega)).trans (Er _ _ _ (zc D))
 have J:zl w5 gm 32 #[.int .i64 W,.int .i64 H,.int .i64 L,vF,vU,vT]:=(h1 gm _ _ h.mz (.inl (by decide))).trans h.mz;have h2:∀g ty cs,zl w g ty cs->ty≠4\/g<S->ty≠32->(w5.setCell ⟨gm,4,none⟩ vU').heap[g]?=w.heap[g]?:=fun g ty cs D hty M=>(Eh w5 ⟨gm,4,none⟩ _ g (zl.ne_ D h.mz M)).trans (h1 g ty cs D hty)
 have K:w.heap.size<=(w5.setCell ⟨gm,4,none⟩ vU').heap.size:=by have:=U.size;simp [World.setCell] at this⊢;omega
 have E:Below B w (w5.setCell ⟨gm,4,none⟩ vU'):=by
  have h3:Below B w (w.alloc o):=(Below.refl B w).alloc h.hB _;have I:Below B w w5:=h3.grown U (by simp;have:=h.hB;omega) (fun k hk=>by have:=(World.ownsRow.lt hu k hk).1;omega);exact I.setCell (p:=⟨gm,4,none⟩) h.gm0 _
 have G:∀{e:TypeId} {sz k:Nat} {v:Value} {xs:List Value},w.ownsRow B e sz v k xs->e≠4->e≠32->(w5.setCell ⟨gm,4,none⟩ vU').ownsRow B e sz v k xs:=fun hr he Q=>AP hr fun g d=>by
  obtain ⟨hl,⟨e,_⟩ | ⟨g2,cap,cur,e,I,O,h6⟩⟩:=hr
  ·rw [e] at d;cases d
  ·rw [e] at d;have:g2=g:=by simpa [Value.ownBlock] using d
   subst this;exact h2 g2 _ _ O (.inl he) Q
 refine ⟨⟨Ea h.hB K,Ea h.hS K,J.set (k:=4) vU',h.gm0,?_,G h.F (by decide) (by decide),G h.T (by decide) (by decide),fun j hj=>?_,fun j hj=>?_⟩,?_,E⟩
 ·obtain ⟨cs,D⟩:=h.dr.blk;exact h.dr.keep E (h2 gd _ _ D (.inl (by decide)) (by decide))
 ·obtain ⟨u,h3,I⟩:=h.fd j hj;exact ⟨u,h3,I.keep (fun g cs V D=>h2 g _ cs D (.inr V) (by decide)) (DY _)⟩
 ·obtain ⟨s,u1,u2,h3,I,O,h6⟩:=h.td j hj;exact ⟨s,u1,u2,h3,I,O,h6.keep (fun g cs _ D=>h2 g _ cs D (.inl (by decide)) (by decide)) (DY _)⟩
 ·unfold OwnB;rw [Eg,Ey,EP]
  exact AP ho fun g d=>Eh w5 ⟨gm,4,none⟩ _ g (fun e=>by
   have e':g=gm:=e;subst e';exact zf ho J (by decide) d)
end
structure R1 (B:Nat) (w:World) (S ge gt n:Nat) (s:NetS) (u1 u2:Value) (l1 l2:List Int):Prop where
 hB:B<=S
 hS:S<=w.heap.size
 dr:zT B w ge
 hge:S<=ge
 tk:zl w gt 87 #[.string s,u1,u2]
 hgt:S<=gt
 o1:zL w S u1 l1
 o2:zL w S u2 l2
 ne:u1.ownBlock=none\/u1.ownBlock≠u2.ownBlock
 e1:l1≠[]
 e2:l2≠[]
 rg:∀x,x∈l1\/x∈l2->0<=x/\x<(n:Int)
section
variable {B:Nat} {w w':World} {S ge gt n:Nat} {s:NetS} {u1 u2:Value} {l1 l2:List Int}
theorem R1.keep (h:R1 B w S ge gt n s u1 u2 l1 l2) (E:Below B w w') (D:∀g ty cs,zl w g ty cs->ty=118\/ty=87\/ty=3->w'.heap[g]?=w.heap[g]?):R1 B w' S ge gt n s u1 u2 l1 l2:=by
 obtain ⟨cs,d⟩:=h.dr.blk;exact ⟨h.hB,Ea h.hS E.size,h.dr.keep E (D ge _ _ d (.inl rfl)),h.hge,(D gt _ _ h.tk (.inr (.inl rfl))).trans h.tk,h.hgt,BA h.o1 (fun g cs _ d=>D g _ cs d (.inr (.inr rfl))),BA h.o2 (fun g cs _ d=>D g _ cs d (.inr (.inr rfl))),h.ne,h.e1,h.e2,h.rg⟩
theorem R1.ext (h:R1 B w S ge gt n s u1 u2 l1 l2) (d:za w w'):R1 B w' S ge gt n s u1 u2 l1 l2:=
 h.keep (d.mono (Ea h.hB h.hS)) (fun g _ _ D _=>d.block g (zc D))
theorem R1.drawn (h:R1 B w S ge gt n s u1 u2 l1 l2) (J:zT B w' ge) (I:w.grownBy w' (some ge)):R1 B w' S ge gt n s u1 u2 l1 l2:=by
 obtain ⟨cs,D⟩:=h.dr.blk
 have d:∀g ty cs',zl w g ty cs'->ty≠118->w'.heap[g]?=w.heap[g]?:=fun g ty cs' E G=>I.block g (zc E) (fun e=>by
  injection e with e;exact zl.ne_ E D G e)
 exact ⟨h.hB,Ea h.hS I.size,J,h.hge,(d gt _ _ h.tk (by decide)).trans h.tk,h.hgt,BA h.o1 (fun g cs _ D=>d g _ cs D (by decide)),BA h.o2 (fun g cs _ D=>d g _ cs D (by decide)),h.ne,h.e1,h.e2,h.rg⟩
theorem R1.drawnExt {wR:World} (h:R1 B w wR.heap.size ge gt n s u1 u2 l1 l2) (d:za wR w) (E:w.grownBy w' (some ge)):za wR w':=
 Below.grown d E d.size (fun k D=>by injection D with D;have:=h.hge;omega)
theorem R1.add1 (h:R1 B w S ge gt n s u1 u2 l1 l2) {u1':Value} {x:Int} (hx:0<=x/\x<(n:Int)) (M:w5.ownsRow S 3 1 u1' (l1.length+1) (l1.map (Value.int .i64)++[.int .i64 x])) (K:(w.alloc o).grownBy w5 u1.ownBlock)
  (hv:u1'.ownBlock=u1.ownBlock\/u1'.ownBlock=some (w.heap.size+1)):R1 B (w5.setCell ⟨gt,1,none⟩ u1') S ge gt n s u1' u2 (l1++[x]) l2/\Below S w (w5.setCell ⟨gt,1,none⟩ u1'):=by
 obtain ⟨cs,d⟩:=h.dr.blk;have h1:∀g ty cs,zl w g ty cs->u1.ownBlock≠some g->w5.heap[g]?=w.heap[g]?:=fun g ty cs d G=>(K.block g (by have:=zc d;simp;omega) (fun e=>G e.symm)).trans (Er _ _ _ (zc d))
 have I:zl w5 gt 87 #[.string s,u1,u2]:=(h1 gt _ _ h.tk (zf h.o1 h.tk (by decide))).trans h.tk;have h2:∀g ty cs,zl w g ty cs->u1.ownBlock≠some g->ty≠87->(w5.setCell ⟨gt,1,none⟩ u1').heap[g]?=w.heap[g]?:=fun g ty cs d G Q=>(Eh w5 ⟨gt,1,none⟩ _ g (zl.ne_ d h.tk Q)).trans (h1 g ty cs d G)
 have O:w.heap.size<=(w5.setCell ⟨gt,1,none⟩ u1').heap.size:=by have:=K.size;simp [World.setCell] at this⊢;omega
 have D:Below S w (w5.setCell ⟨gt,1,none⟩ u1'):=by
  have h3:Below S w (w.alloc o):=(Below.refl S w).alloc h.hS _;have U:Below S w w5:=h3.grown K (by simp;have:=h.hS;omega) (fun k V=>(World.ownsRow.lt h.o1 k V).1);exact U.setCell (p:=⟨gt,1,none⟩) h.hgt _
 refine ⟨⟨h.hB,Ea h.hS O,h.dr.keep (D.mono h.hB) (h2 ge _ _ d (zf h.o1 d (by decide)) (by decide)),h.hge,I.set (k:=1) u1',h.hgt,?_,?_,?_,by simp,h.e2,?_⟩,D⟩
 ·show World.ownsRow _ _ _ _ _ (l1++[x]).length _;rw [Eg,Ey,EP]
  exact AP M fun g E=>Eh w5 ⟨gt,1,none⟩ _ g (fun e=>by
   have e':g=gt:=e;subst e';exact zf M I (by decide) E)
 ·exact BA h.o2 (fun g cs E J=>h2 g _ cs J (fun e=>by
   rcases h.ne with hn | hn
   ·rw [hn] at e;cases e
   ·exact hn (e.trans E.symm)) (by decide))
 ·right
  rcases hv with hv | hv
  ·rw [hv];rcases h.ne with hn | hn
   ·rw [hn] at hv;obtain ⟨g,c,e,_,_⟩:=World.ownsRow.form M (by omega);rw [e] at hv;cases hv
   ·exact hn
  ·rw [hv];intro e;have:=(World.ownsRow.lt h.o2 _ e.symm).2;omega
 ·intro y hy;rcases hy with hy | hy
  ·rcases EN.1 hy with hy | hy
   ·exact h.rg y (.inl hy)
   ·rw [EF] at hy;rw [hy];exact hx
  ·exact h.rg y (.inr hy)
theorem R1.add2 (h:R1 B w S ge gt n s u1 u2 l1 l2) {u2':Value} {x:Int} (hx:0<=x/\x<(n:Int)) (Q:w5.ownsRow S 3 1 u2' (l2.length+1) (l2.map (Value.int .i64)++[.int .i64 x])) (K:(w.alloc o).grownBy w5 u2.ownBlock)
  (hv:u2'.ownBlock=u2.ownBlock\/u2'.ownBlock=some (w.heap.size+1)):R1 B (w5.setCell ⟨gt,2,none⟩ u2') S ge gt n s u1 u2' l1 (l2++[x])/\Below S w (w5.setCell ⟨gt,2,none⟩ u2'):=by
 obtain ⟨cs,D⟩:=h.dr.blk;have h1:∀g ty cs,zl w g ty cs->u2.ownBlock≠some g->w5.heap[g]?=w.heap[g]?:=fun g ty cs D G=>(K.block g (by have:=zc D;simp;omega) (fun e=>G e.symm)).trans (Er _ _ _ (zc D))
 have I:zl w5 gt 87 #[.string s,u1,u2]:=(h1 gt _ _ h.tk (zf h.o2 h.tk (by decide))).trans h.tk;have h2:∀g ty cs,zl w g ty cs->u2.ownBlock≠some g->ty≠87->(w5.setCell ⟨gt,2,none⟩ u2').heap[g]?=w.heap[g]?:=fun g ty cs D G O=>(Eh w5 ⟨gt,2,none⟩ _ g (zl.ne_ D h.tk O)).trans (h1 g ty cs D G)
 have M:w.heap.size<=(w5.setCell ⟨gt,2,none⟩ u2').heap.size:=by have:=K.size;simp [World.setCell] at this⊢;omega
 have E:Below S w (w5.setCell ⟨gt,2,none⟩ u2'):=by
  have h3:Below S w (w.alloc o):=(Below.refl S w).alloc h.hS _;have U:Below S w w5:=h3.grown K (by simp;have:=h.hS;omega) (fun k V=>(World.ownsRow.lt h.o2 k V).1);exact U.setCell (p:=⟨gt,2,none⟩) h.hgt _
 refine ⟨⟨h.hB,Ea h.hS M,h.dr.keep (E.mono h.hB) (h2 ge _ _ D (zf h.o2 D (by decide)) (by decide)),h.hge,I.set (k:=2) u2',h.hgt,?_,?_,?_,h.e1,by simp,?_⟩,E⟩
 ·exact BA h.o1 (fun g cs d J=>h2 g _ cs J (fun e=>by
   rcases h.ne with hn | hn
   ·rw [hn] at d;cases d
   ·exact hn (d.trans e.symm)) (by decide))
 ·show World.ownsRow _ _ _ _ _ (l2++[x]).length _;rw [Eg,Ey,EP]
  exact AP Q fun g d=>Eh w5 ⟨gt,2,none⟩ _ g (fun e=>by
   have e':g=gt:=e;subst e';exact zf Q I (by decide) d)
 ·rcases hv with hv | hv
  ·rw [hv];exact h.ne
  ·by_cases h0:u1.ownBlock=none
   ·exact .inl h0
   ·right
    rw [hv];intro e;have:=(World.ownsRow.lt h.o1 _ e).2;omega
 ·intro y hy;rcases hy with hy | hy
  ·exact h.rg y (.inl hy)
  ·rcases EN.1 hy with hy | hy
   ·exact h.rg y (.inr hy)
   ·rw [EF] at hy;rw [hy];exact hx
theorem R1.taskD (h:R1 B w S ge gt n s u1 u2 l1 l2) (k1:l1.length<=2) (k2:l2.length<=2):TaskD w B w.heap.size n u1 u2:=
 ⟨l1,l2,World.ownsRow.mono h.o1 h.hB,World.ownsRow.mono h.o2 h.hB,⟨h.e1,h.e2⟩,⟨k1,k2⟩,h.rg,fun g hg=>by
  rcases hg with hg | hg
  ·exact (World.ownsRow.lt h.o1 g hg).2
  ·exact (World.ownsRow.lt h.o2 g hg).2⟩
end
theorem OwnB.app {S:Nat} {v':Value} {l:List Bool} (d:w5.ownsRow S 4 1 v' (l.length+1) (l.map Value.bool++[.bool x])):OwnB w5 S v' (l++[x]):=by
 unfold OwnB;rw [Eg,Ey,EP];exact d
theorem R1.grownB {B:Nat} {w:World} {S S2 ge gt n:Nat} {s:NetS} {u1 u2:Value} {l1 l2:List Int} {l:List Bool} (h:R1 B w S ge gt n s u1 u2 l1 l2) (I:OwnB w S2 v l) (J:S<=S2) (G:(w.alloc o).grownBy w5 v.ownBlock):R1 B w5 S ge gt n s u1 u2 l1 l2/\Below S w w5:=by
 have d:Below S w w5:=by
  have h3:Below S w (w.alloc o):=(Below.refl S w).alloc h.hS _;exact h3.grown G (by simp;have:=h.hS;omega) (fun k K=>Ea J (World.ownsRow.lt I k K).1)
 refine ⟨h.keep (d.mono h.hB) fun g ty cs D E=>?_,d⟩;exact (G.block g (by have:=zc D;simp;omega) (fun e=>zf I D (by rcases E with rfl | rfl | rfl <;> decide) e.symm)).trans (Er _ _ _ (zc D))
theorem cells3n (w:World) (a b c:Value) (t:TypeId):∀j u,[a,b,c][j]?=some u->(w.alloc (.cells #[a,b,c] t)).cell? ((⟨w.heap.size,0,none⟩:Addr).add j)=some u:=by
 intro j u d;have D:zl (w.alloc (.cells #[a,b,c] t)) w.heap.size t #[a,b,c]:=zl.new _ _ _ rfl
 match j,d with
 | 0,d=>exact D.cell (k:=0) d
 | 1,d=>exact D.cell (k:=1) d
 | 2,d=>exact D.cell (k:=2) d
section
variable {B:Nat} {w:World} {S S2 gm gd ge gt:Nat} {W H L:Int} {n t:Nat} {vF vU vT vf:Value} {fs ts:List Value} {s:NetS} {u1 u2:Value} {l1 l2:List Int} {lf:List Bool}
theorem MS.end1 (h:MS B w w.heap.size gm gd W H L n t t vF vU vT fs ts) (J:R1 B w S ge gt n s u1 u2 l1 l2) (k1:l1.length<=2) (k2:l2.length<=2) (D:OwnB w S2 vf lf) (I:w9.ownsRow B 87 3 vT' (t+1) (ts++[.string s,u1,u2])) (G:(w.alloc o).grownBy w9 vT.ownBlock):
  MS B (w9.setCell ⟨gm,5,none⟩ vT') w.heap.size gm gd W H L n t (t+1) vF vU vT' fs (ts++[.string s,u1,u2])/\OwnB (w9.setCell ⟨gm,5,none⟩ vT') S2 vf lf/\Below B w (w9.setCell ⟨gm,5,none⟩ vT'):=by
 obtain ⟨h1,h2,h3⟩:=h.addT (J.taskD k1 k2) I G;refine ⟨h1,AP D fun g d=>?_,h3⟩;obtain ⟨O,⟨e,_⟩ | ⟨g2,cap,cur,e,K,E,M⟩⟩:=D
 ·rw [e] at d;cases d
 ·rw [e] at d;have:g2=g:=by simpa [Value.ownBlock] using d
  subst this;exact h2 g2 _ _ E (by decide) (by decide)
theorem MS.end2 (h:MS B w S gm gd W H L n t (t+1) vF vU vT fs ts) (G:OwnB w S2 vf lf) (d:lf.length=n) (D:B<=S2) (E:∀g,vf.ownBlock=some g->g<S) (J:w9.ownsRow B 29 1 vF' (t+1) (fs++[vf])) (I:(w.alloc o).grownBy w9 vF.ownBlock):
  MS B (w9.setCell ⟨gm,3,none⟩ vF') (w9.setCell ⟨gm,3,none⟩ vF').heap.size gm gd W H L n (t+1) (t+1) vF' vU vT (fs++[vf]) ts/\Below B w (w9.setCell ⟨gm,3,none⟩ vF'):=by
 obtain ⟨h1,h2⟩:=h.addF ⟨lf,World.ownsRow.mono G D,d,E⟩ J I;exact ⟨h1.ext (za.refl _),h2⟩
theorem MS.c5 (h:MS B w S gm gd W H L n t (t+1) vF vU vT fs ts):w.cell? ⟨gm,3,none⟩=some vF:=h.mz.cell (k:=3) rfl
end
theorem hasB {w:World} {B:Nat} {u:Value} (k:Int) (o:zL w B u l) (D:l.length<=1000):∃b,∀W,za w W->Calls Tryz.prog 73 #[u,.int .i64 k] W fun e w'=>e=.returned (.bool b)/\W=w':=
 ⟨_,fun W d=>AK k W (zk.below (Bv.of_own o) d) (by omega)⟩
theorem own_blkB {w:World} {B n g c:Nat} {e:TypeId} (h:w.ownsRow B e sz (.slice (some ⟨g,0,none⟩) n c) n xs):∃cs,zl w g e cs:=by
 obtain ⟨_,⟨e,_⟩ | ⟨g2,cap,cur,e,_,d,_⟩⟩:=h
 ·cases e
 ·injection e with e _ _;injection e with e;injection e with e;subst e;exact ⟨cur,d⟩
theorem MS.stored {B:Nat} {w1 w:World} {S gm gd g k:Nat} {W H L:Int} {n tF tT:Nat} {vF vU vT:Value} {fs ts:List Value} (h:MS B w S gm gd W H L n tF tT vF vU vT fs ts) (E:za w1 w) (I:B=w1.heap.size) (d:∃cs,zl w g 4 cs) (G:B<=g) (b:Bool):
  MS B (w.drew.setCell ⟨g,k,none⟩ (.bool b)) (w.drew.setCell ⟨g,k,none⟩ (.bool b)).heap.size gm gd W H L n tF tT vF vU vT fs ts/\za w1 (w.drew.setCell ⟨g,k,none⟩ (.bool b)):=by
 obtain ⟨cs,d⟩:=d;have h1:=h.extS ((za.refl w).drew);have D:zl w.drew g 4 cs:=d;have h2:=h1.store (k:=k) D G b;exact ⟨h2.ext (za.refl _),E.drew.setCell (p:=⟨g,k,none⟩) (by show w1.heap.size<=g;omega) _⟩
end
section
open Go.RowKit Go.Shelf
attribute [local go_sem ↓] Go.wp_at_zero Go.wp_at_succ
abbrev Rd:=List UInt8×Bool
def AS (s:Rd):Int×Rd:=match Bm 59 s with
 | some (v,b)=>(v,(b,false))
 | none=>(0,([],true))
theorem Cp (s:Rd):BI (AS s).1:=by
 unfold AS Bm numP
 split
 ·rename_i v b h
  split at h
  ·cases h
  ·split at h
   ·cases h
   ·split at h
    ·rename_i d
     split at h
     ·injection h with h;injection h with h1 h2;subst h1;exact ⟨(Lib.atoiAll_bounds d).1,(Lib.atoiAll_bounds d).2⟩
     ·cases h
    ·cases h
 ·exact ⟨by decide,by decide⟩
theorem intF_len (s:Rd):(AS s).2.1.length<=s.1.length/\((AS s).2.2=false->(AS s).2.1.length<s.1.length):=by
 unfold AS Bm numP
 split
 ·rename_i v b h
  split at h
  ·cases h
  ·split at h
   ·cases h
   ·rename_i d
    have:=(BN d).2
    split at h
    ·split at h
     ·injection h with h;injection h with h1 h2;subst h2;rw [this];exact ⟨by simp;omega,fun _=>by simp;omega⟩
     ·cases h
    ·cases h
 ·exact ⟨by simp,fun h=>by cases h⟩
theorem intF_bad {s:Rd} (h:s.2=true):AS s=(0,([],true)):=by
 unfold AS Bm;rw [if_pos h]
theorem rInt_calls {s:Rd} (w:World) (Q:zq w) (h:RdAt w r s) (K:s.1.length<=281474976710656):Calls Tryz.prog 173 #[.pointer (some ⟨r,0,none⟩)] w fun e w'=>e=.returned (.int .i64 (AS s).1)/\zC (·=r) w w'/\RdAt w' r (AS s).2:=by
 have D:=zh (number_calls 59 w Q h K);have d:Hid (∀o,o=Bm 59 s->AS s=match o with | some (v,b)=>(v,(b,false)) | none=>(0,([],true))):=fun o U=>by rw [U];rfl
 generalize Bm 59 s=o at D d;have d:=zh (d.out o rfl);generalize AS s=i at d;clear Q h K
 go_enter Tryz.func173,Tryz.ntmps173
 cases o with
 | none=>
  go_wp2_with fail
  refine D.out.mono ?_;rintro e w1 ⟨E,-,M⟩;obtain ⟨rfl,G⟩:=M rfl;have J:=zh G;have I:=zh E;clear E M G D
  go_wp2_with fail
  go_ret;have e:=d.out;subst e;exact ⟨rfl,I.out,J.out⟩
 | some p=>
  obtain ⟨v,b⟩:=p
  go_wp2_with fail
  refine D.out.mono ?_;rintro e w1 ⟨E,O,-⟩;obtain ⟨rfl,G⟩:=O v b rfl;have J:=zh G;have I:=zh E;clear E O G D
  go_wp2_with fail
  go_ret;have e:=d.out;subst e;exact ⟨rfl,I.out,J.out⟩
def AJ:Nat->Rd->List Int->List Int×Rd
 | 0,s,l=>(l,s)
 | f+1,s,l=>if zU s=0\/s.1.head?=some 93 then (l,s) else AJ f (AS s).2 (l++[(AS s).1])
def intsE (p:List Int×Rd):List Int×Rd:=if zU p.2=0 then ([],([],true)) else (p.1,(p.2.1.tail,false))
def zZ (s:Rd):List Int×Rd:=if zU s=0\/s.1.head?≠some 91 then ([],([],true)) else intsE (AJ s.1.tail.length (s.1.tail,false) [])
theorem intF_nil (s:Rd) (h:(AS s).2.2=true):(AS s).2.1=[]:=by
 unfold AS at h⊢
 cases d:Bm 59 s with
 | none=>rfl
 | some p=>rw [d] at h;cases h
theorem intF_dec {s:Rd} {n:Nat} (h:s.1.length<=n+1):(AS s).2.1.length<=n:=by
 cases d:(AS s).2.2 with
 | false=>have:=(intF_len s).2 d;omega
 | true=>rw [intF_nil s d];simp
def rdSize (r:Nat) (w:World):Nat:=match w.cell? ⟨r,0,none⟩ with
 | some (.string s)=>s.size
 | _=>0
theorem rdSize_of {s:Rd} {w:World} (h:RdAt w r s):rdSize r w=s.1.length:=by
 unfold rdSize;rw [h.cell (k:=0) rfl];simp [ByteArray.size]
theorem head_get {l:List UInt8} (h:0<l.length):∃x l',l=x :: l'/\(ByteArray.mk l.toArray)[0]'h=x:=by
 cases l with
 | nil=>simp at h
 | cons x l'=>exact ⟨x,l',rfl,rfl⟩
theorem Do {w w':World} {B:Nat} {e t:TypeId} {n:Nat} {cs:Array Value} (h:w.ownsRow B e sz v n xs) (G:zl w r t cs) (d:e≠t) (E:zC (·=r) w w'):w'.ownsRow B e sz v n xs:=
 AP h fun g D=>E.block g (World.ownsRow.lt h g D).2 (fun e=>by subst e;exact zf h G d D)
theorem chg_below {X:Nat->Prop} {a b c:World} {B:Nat} (h:zC X a b) (d:Below B b c) (G:a.heap.size<=B:=by exact DY _):zC X a c:=
 ⟨d.os.trans h.os,d.tape.trans h.tape,d.output.trans h.output,Ea h.size d.size,fun k D E=>(d.block k (by omega)).trans (h.block k D E)⟩
theorem elsF_fuel:∀(f f':Nat) (s:Rd) (l:List Int),s.1.length<=f->s.1.length<=f'->AJ f s l=AJ f' s l
 | 0,0,s,l,_,_=>rfl
 | 0,f'+1,s,l,h,_=>by
  have:s.1=[]:=Ep (by omega);unfold AJ;rw [if_pos (.inl (by unfold zU;rw [this];split <;> rfl))]
 | f+1,0,s,l,_,h=>by
  have:s.1=[]:=Ep (by omega);unfold AJ;rw [if_pos (.inl (by unfold zU;rw [this];split <;> rfl))]
 | f+1,f'+1,s,l,h,d=>by
  unfold AJ
  split
  ·rfl
  ·rename_i D
   exact elsF_fuel f f' _ _ (intF_dec h) (intF_dec d)
theorem elsF_step {s:Rd} (h0:zU s≠0) (h1:s.1.head?≠some 93):AJ s.1.length s l=AJ (AS s).2.1.length (AS s).2 (l++[(AS s).1]):=by
 have d:0<s.1.length:=by
  unfold zU at h0
  split at h0
  ·exact absurd rfl h0
  ·omega
 obtain ⟨f,hf⟩:∃f,s.1.length=f+1:=⟨s.1.length - 1,by omega⟩;rw [hf,AJ,if_neg (fun h=>h.elim h0 h1)];exact elsF_fuel _ _ _ _ (intF_dec (by omega)) (DY _)
theorem elsF_stop {s:Rd} (h:zU s=0\/s.1.head?=some 93):AJ s.1.length s l=(l,s):=by
 cases hf:s.1.length with
 | zero=>rfl
 | succ f=>unfold AJ;rw [if_pos h]
theorem elements_calls {s:Rd} (w:World) (hv:zq w) (h:RdAt w r s) (hl:s.1.length<=1000000000000):Calls Tryz.prog 219 #[.pointer (some ⟨r,0,none⟩),.func (.func 173) #[.pointer (some ⟨r,0,none⟩)] #[]] w fun e w'=>∃v,e=.returned v/\zC (·=r) w w'/\RdAt w' r (zZ s).2/\zL w' w.heap.size v (zZ s).1:=by
 have HL:=zh (wLeft_calls w h);have HF:=zh (BY w h);obtain ⟨l,bad⟩:=s;have c0:=h.cell (k:=0) rfl;have hf:∀k,w.frozen? ⟨r,k,none⟩=false:=fun k=>h.frozen k
 have HR:=zh h;have HV:=zh hv;dsimp only at HL HR c0 hl;clear h hv
 go_enter Tryz.func219,Tryz.ntmps219
 go_wp2_with fail
 refine HL.out.mono ?_;rintro e w1 ⟨rfl,rfl⟩;by_cases D:zU (l,bad)=0
 ·have hI:Hid (zZ (l,bad)=([],([],true))):=by (show _=_);unfold zZ;rw [if_pos (.inl D)]
  have d7:(zU (l,bad):Int)=0:=by omega
  have d8:((zU (l,bad):Int)==0)=true:=by simp [D]
  go_wp2_with fail
  refine HF.out.mono ?_;rintro e w2 ⟨rfl,hC,hr⟩;have HC:=zh hC;have a2:=zh hr;clear hC hr
  go_wp2_with fail
  go_ret;refine ⟨_,rfl,HC.out,?_,?_⟩
  ·rw [hI.out];exact a2.out
  ·rw [hI.out];exact World.ownsRow_nil _ _ _ _
 ·have d7:((zU (l,bad):Int)==0)=false:=by simp [D]
  have a3:bad=false:=by cases bad with | false=>rfl | true=>exact absurd rfl D
  subst a3;have a4:0<l.length:=by unfold zU at D;simp at D;exact List.length_pos_iff.2 D
  have b5:(0:Int)<(l.length:Int):=by omega
  obtain ⟨x,l',K,hx⟩:=head_get a4;by_cases J:x=91
  ·have hq:((((ByteArray.mk l.toArray)[0]'a4).toNat:Int) != 91)=false:=by rw [hx,J];rfl
   have d6:ByteArray.extract ⟨l.toArray⟩ 1 l.length=⟨l'.toArray⟩:=by rw [Dm,K];rfl
   have HI:Hid (zZ (l,false)=intsE (AJ l'.length (l',false) [])):=by
    (show _=_)
    unfold zZ;rw [if_neg (by rw [K,J];simp [zU]),K,J];rfl
   have f8:l'.length<=1000000000000:=by rw [K] at hl;simp at hl;omega
   have HS:Hid (zC (·=r) w (w.setCell ⟨r,0,none⟩ (.string ⟨l'.toArray⟩))/\RdAt (w.setCell ⟨r,0,none⟩ (.string ⟨l'.toArray⟩)) r (l',false)):=⟨BC (X:=(·=r)) (zC.refl _ _) r 0 _ rfl,zl.set (k:=0) HR.out _⟩;clear K hx J D
   go_wp2_with fail
   go_loopw [5] (fun v wr=>∃s' acc,Hid (AJ l'.length (l',false) []=AJ s'.1.length s' acc)/\Hid (RdAt wr r s')/\Hid (zL wr w.heap.size v acc)/\Hid (zC (·=r) w wr)/\s'.1.length+acc.length<=l'.length/\∃A c,v=.slice A acc.length c) (fun _ wr=>rdSize r wr)
   case atStart=>exact ⟨(l',false),[],rfl,HS.out.2,World.ownsRow_nil _ _ _ _,HS.out.1,by simp,none,0,rfl⟩
   have c8:=HR;clear HS hq d6 d7 HR HL HF c0 hf b5 hl
   case round=>
    obtain ⟨⟨l1,bad⟩,acc,U,d,a0,O,a7,A,c,rfl⟩:=hrel;have b4:=wLeft_calls wr d.out;have c1:=d.out.cell (k:=0) rfl;have f5:∀k,wr.frozen? ⟨r,k,none⟩=false:=fun k=>d.out.frozen k
    have f7:l1.length+acc.length<=l'.length:=a7;dsimp only at b4 c1;have I:=zh b4;clear b4 a7;by_cases D:zU (l1,bad)=0
    ·have G:Hid (AJ l'.length (l',false) []=(acc,(l1,bad))):=U.out.trans (elsF_stop (.inl D));have d8:((zU (l1,bad):Int)==0)=true:=by simp [D]
     have f0:¬ ((0:Int)<(zU (l1,bad):Int)):=by omega
     have e9:decide (0<zU (l1,bad))=false:=Ec (by omega)
     go_wp2_with fail
     refine I.out.mono ?_;rintro e w2 ⟨rfl,rfl⟩
     go_wp2_with fail
     have b7:=zh (BY wr d.out);refine I.out.mono ?_;rintro e w3 ⟨rfl,rfl⟩;have HN:Hid (zZ (l,false)=([],([],true))):=by (show _=_);rw [HI.out,G.out];unfold intsE;rw [if_pos D]
     clear I U G HI a0
     go_wp2_with fail
     refine b7.out.mono ?_;rintro e w4 ⟨rfl,hC,hr⟩;have HC:=zh (O.out.tr hC);have a2:=zh hr;clear hC hr b7
     go_wp2_with fail
     go_ret;refine ⟨_,rfl,HC.out,?_,?_⟩
     ·rw [HN.out];exact a2.out
     ·rw [HN.out];exact World.ownsRow_nil _ _ _ _
    ·have a3:bad=false:=by cases bad with | false=>rfl | true=>exact absurd rfl D
     subst a3;have M:0<l1.length:=by unfold zU at D;simp at D;exact List.length_pos_iff.2 D
     obtain ⟨x,l2,E,hx⟩:=head_get M;have d8:((zU (l1,false):Int)==0)=false:=by simp [D]
     have f0:(0:Int)<(zU (l1,false):Int):=by omega
     have e9:decide (0<zU (l1,false))=true:=Eb (by omega);by_cases V:x=93
     ·have hq:((((ByteArray.mk l1.toArray)[0]'M).toNat:Int) != 93)=false:=by rw [hx,V];rfl
      have d6:ByteArray.extract ⟨l1.toArray⟩ 1 l1.length=⟨l2.toArray⟩:=by rw [Dm,E];rfl
      have HN:Hid (zZ (l,false)=(acc,(l2,false))):=by
       (show _=_)
       rw [HI.out,U.out,elsF_stop (.inr (by rw [E,V];rfl))];unfold intsE;rw [if_neg D,E];rfl
      have Q:Hid (zC (·=r) w (wr.setCell ⟨r,0,none⟩ (.string ⟨l2.toArray⟩))/\RdAt (wr.setCell ⟨r,0,none⟩ (.string ⟨l2.toArray⟩)) r (l2,false)):=⟨BC (X:=(·=r)) O.out r 0 _ rfl,zl.set (k:=0) d.out _⟩;have a1:Hid (zL (wr.setCell ⟨r,0,none⟩ (.string ⟨l2.toArray⟩)) w.heap.size (.slice A acc.length c) acc):=Do a0.out d.out (by decide) (BC (X:=(·=r)) (zC.refl _ _) r 0 _ rfl);clear HI U E hx V D a0 O d
      go_wp2_with fail
      refine I.out.mono ?_;rintro e w2 ⟨rfl,rfl⟩
      go_wp2_with fail
      refine I.out.mono ?_;rintro e w2 ⟨rfl,rfl⟩;clear I
      go_wp2_with fail
      go_ret;refine ⟨_,rfl,Q.out.1,?_,?_⟩
      ·rw [HN.out];exact Q.out.2
      ·rw [HN.out];exact a1.out
     ·have hq:((((ByteArray.mk l1.toArray)[0]'M).toNat:Int) != 93)=true:=by
       rw [hx,bne_iff_ne];intro h;exact V (UInt8.toNat_inj.1 (by simpa using Int.ofNat.inj h))
      have G:Hid (AJ l'.length (l',false) []=AJ (AS (l1,false)).2.1.length (AS (l1,false)).2 (acc++[(AS (l1,false)).1])):=U.out.trans (elsF_step D (by rw [E];simpa using V));have d4:(AS (l1,false)).2.1.length+1<=l1.length:=by have:=intF_dec (s:=(l1,false)) (n:=l1.length - 1) (by show l1.length<=_;omega);omega
      have b0:=zh (rInt_calls wr (DB HV.out O.out (var_ne HV.out c8.out)) d.out (by show l1.length<=_;omega));obtain ⟨y,hy⟩:=Fd (AS (l1,false));rw [<-hy] at G b0 d4;have e7:Hid (rdSize r wr=l1.length):=rdSize_of d.out;have f2:acc.length<=1000000000000:=by omega
      clear HI U E hx V D hy
      go_wp2_with fail
      refine I.out.mono ?_;rintro e w2 ⟨rfl,rfl⟩;clear I
      go_wp2_with fail
      refine b0.out.mono ?_;rintro e w3 ⟨rfl,b2,c9⟩;have a1:Hid (zL w3 w.heap.size (.slice A acc.length c) acc):=Do a0.out d.out (by decide) b2;have Q:=zh (O.out.tr b2);have c6:=zh c9;clear b2 c9 b0 a0 O d;have a9:w.heap.size<=w3.heap.size:=Q.out.size
      go_wp2_with (at_builtin;refine AR rfl _ _ rfl _ acc y.1 w.heap.size w3.heap.size 1 _ rfl rfl (a1.out.alloc _) ?d1 ?d2 ?d3 ?_)
      (try case d1=>exact zA _ _ _ (by simp))
      case d2=>(first | (simp;done) | (simp;omega) | omega)
      case d3=>omega
      intro v' w4 b3 d5 e8;have b1:Below w.heap.size w3 w4:=((Below.refl _ w3).alloc a9 _).grown d5.out (by simp;omega) (fun k hk=>(a1.out.lt k hk).1);have e2:Hid (zC (·=r) w w4):=chg_below Q.out b1;have c7:Hid (RdAt w4 r y.2):=zl.below c6.out b1 (zc c8.out);obtain ⟨A4,c4,rfl,-⟩:=AL b3;have e5:=zh b3;clear b3 d5 e8 b1 Q c6 a1 a9;go_wp2;go_roundw
      case rel=>exact ⟨y.2,acc++[y.1],G,c7,e5,e2,by simp;omega,A4,c4,by simp⟩
      case measure=>rw [rdSize_of c7.out,e7.out];omega
  ·have hq:((((ByteArray.mk l.toArray)[0]'a4).toNat:Int) != 91)=true:=by
    rw [hx,bne_iff_ne];intro h;exact J (UInt8.toNat_inj.1 (by simpa using Int.ofNat.inj h))
   have hI:Hid (zZ (l,false)=([],([],true))):=by (show _=_);unfold zZ;rw [if_pos (.inr (by rw [K];simpa using J))]
   clear K hx J D
   go_wp2_with fail
   refine HF.out.mono ?_;rintro e w2 ⟨rfl,hC,hr⟩;have HC:=zh hC;have a2:=zh hr;clear hC hr
   go_wp2_with fail
   go_ret;refine ⟨_,rfl,HC.out,?_,?_⟩
   ·rw [hI.out];exact a2.out
   ·rw [hI.out];exact World.ownsRow_nil _ _ _ _
theorem rInts_calls {s:Rd} (w:World) (I:zq w) (h:RdAt w r s) (K:s.1.length<=1000000000000):Calls Tryz.prog 174 #[.pointer (some ⟨r,0,none⟩)] w fun e w'=>∃v,e=.returned v/\zC (·=r) w w'/\RdAt w' r (zZ s).2/\zL w' w.heap.size v (zZ s).1:=by
 have D:=zh (elements_calls w I h K);generalize zZ s=i at D⊢;clear I h
 go_enter Tryz.func174,Tryz.ntmps174
 go_wp2_with fail
 refine D.out.mono ?_;rintro e w1 ⟨v,rfl,E,G,d⟩;obtain ⟨A,c,rfl,-⟩:=AL d;have J:=zh (And.intro E (And.intro G d));clear E G d
 go_wp2_with fail
 go_ret;exact ⟨_,rfl,J.out⟩
end
section
open Go.RowKit
def dgB (u:Nat):UInt8:=UInt8.ofNat (48+u)
theorem Df {u:Nat} (h:u<10):(dgB u).toNat=48+u:=by
 unfold dgB;rw [UInt8.toNat_ofNat'];omega
theorem Cn {u:Nat} (h:u<10):Lib.decDigits u=[dgB u]:=by rw [Lib.decDigits,dif_pos h];rfl
theorem dec_big {u:Nat} (h:¬ u<10):Lib.decDigits u=Lib.decDigits (u / 10)++[dgB (u % 10)]:=by
 conv=>lhs;rw [Lib.decDigits,dif_neg h]
 rfl
theorem BK {n:Int} (h:0<=n):Lib.itoa n=Lib.decDigits n.toNat:=by unfold Lib.itoa;rw [if_neg (by omega)]
theorem Da {n:Int} (h:n<0):Lib.itoa n=45 :: Lib.decDigits n.natAbs:=by unfold Lib.itoa;rw [if_pos h]
theorem itoa_one {n:Int} (h0:0<=n) (h1:n<10):Lib.itoa n=[dgB n.toNat]:=by rw [BK h0,Cn (by omega)]
theorem itoa_sign {n:Int} (h0:n<0) (h1:n.tdiv 10=0):Lib.itoa n=45 :: Lib.itoa (-(n.tmod 10)):=by
 obtain ⟨k,rfl⟩:∃k:Nat,n=-(k:Int):=⟨n.natAbs,by omega⟩;have e1:(-(k:Int)).tdiv 10=-((k / 10:Nat):Int):=by rw [Int.neg_tdiv];rfl
 have e2:(-(k:Int)).tmod 10=-((k % 10:Nat):Int):=by rw [Int.neg_tmod];rfl
 rw [e1] at h1;rw [e2,Int.neg_neg,Da h0,BK (by omega)];have:(-(k:Int)).natAbs=k:=by omega
 rw [this,EO,Nat.mod_eq_of_lt (by omega)]
theorem itoa_more {n:Int} (h0:n<0) (h1:n.tdiv 10≠0):Lib.itoa n=Lib.itoa (n.tdiv 10)++Lib.itoa (-(n.tmod 10)):=by
 obtain ⟨k,rfl⟩:∃k:Nat,n=-(k:Int):=⟨n.natAbs,by omega⟩;have e1:(-(k:Int)).tdiv 10=-((k / 10:Nat):Int):=by rw [Int.neg_tdiv];rfl
 have e2:(-(k:Int)).tmod 10=-((k % 10:Nat):Int):=by rw [Int.neg_tmod];rfl
 rw [e1] at h1⊢;rw [e2,Int.neg_neg,Da h0,Da (by omega),BK (by omega)];have a1:(-(k:Int)).natAbs=k:=by omega
 have a2:(-((k / 10:Nat):Int)).natAbs=k / 10:=by omega
 rw [a1,a2,EO,dec_big (by omega),Cn (Nat.mod_lt _ (by decide))];rfl
theorem itoa_plus {n:Int} (h0:0<=n) (h1:¬ n<10):Lib.itoa n=Lib.itoa (n.tdiv 10)++Lib.itoa (n.tmod 10):=by
 obtain ⟨k,rfl⟩:∃k:Nat,n=(k:Int):=⟨n.toNat,by omega⟩;have e1:((k:Int)).tdiv 10=((k / 10:Nat):Int):=rfl;have e2:((k:Int)).tmod 10=((k % 10:Nat):Int):=rfl;rw [e1,e2,BK h0,BK (by omega),BK (by omega),EO,EO,EO,dec_big (by omega),Cn (u:=k % 10) (Nat.mod_lt _ (by decide))]
def zR:List UInt8->Int->Option Int
 | [],n=>some n
 | c :: l,n=>if (c.toNat:Int) - 48<0\/9<(c.toNat:Int) - 48\/n< -922337203685477580\/(n=-922337203685477580/\8<(c.toNat:Int) - 48) then none else zR l (10*n - ((c.toNat:Int) - 48))
theorem refDig_app:∀(a b:List UInt8) (n:Int),zR (a++b) n=(zR a n).bind (zR b)
 | [],b,n=>rfl
 | c :: a,b,n=>by
  simp only [List.cons_append,zR]
  split
  ·rfl
  ·exact refDig_app a b _
theorem refDig_dec (u:Nat) (h:u<=9223372036854775808):zR (Lib.decDigits u) 0=some (-(u:Int)):=by
 induction u using Nat.strongRecOn with
 | ind u ih=>
  by_cases d:u<10
  ·rw [Cn d];have:=Df d;simp only [zR,this];rw [if_neg (by omega)];congr 1;omega
  ·rw [dec_big d,refDig_app,ih (u / 10) (by omega) (by omega)];have:=Df (Nat.mod_lt u (show 0<10 by decide));simp only [Option.bind_some,zR,this];rw [if_neg (by omega)];congr 1;omega
theorem Dz:∀(l:List UInt8) (n v:Int),n<=0->-9223372036854775808<=n->zR l n=some v->v<=0/\-9223372036854775808<=v
 | [],n,v,h0,h1,h=>by
  injection h with h;omega
 | c :: l,n,v,h0,h1,h=>by
  simp only [zR] at h
  split at h
  ·cases h
  ·exact Dz l _ v (by omega) (by omega) h
def Bj (a:List UInt8):Option Int:=
 if a.head?=some 45 then (zR a.tail 0).bind fun n=>if Lib.itoa n=a then some n else none
 else (zR a 0).bind fun n=>if n=-9223372036854775808 then none else if Lib.itoa (-n)=a then some (-n) else none
theorem dec_head (u:Nat):∃k,k<10/\∃l,Lib.decDigits u=dgB k :: l:=by
 induction u using Nat.strongRecOn with
 | ind u ih=>
  by_cases d:u<10
  ·exact ⟨u,d,[],Cn d⟩
  ·obtain ⟨k,D,l,h⟩:=ih (u / 10) (by omega);exact ⟨k,D,l++[dgB (u % 10)],by rw [dec_big d,h];rfl⟩
theorem refNum_of {v:Int} (h:BI v):Bj (Lib.itoa v)=some v:=by
 obtain ⟨h0,h1⟩:=h;unfold Bj;by_cases E:v<0
 ·have e:=Da E;rw [if_pos (by rw [e];rfl)];have e2:(Lib.itoa v).tail=Lib.decDigits v.natAbs:=by rw [e];rfl
  rw [e2,refDig_dec _ (by omega),Option.bind_some];have e3:-((v.natAbs:Nat):Int)=v:=by omega
  rw [e3,if_pos rfl]
 ·have e:=BK (n:=v) (by omega);obtain ⟨k,D,l,d⟩:=dec_head v.toNat
  rw [if_neg (by
   rw [e,d];intro hh;injection hh with hh;have:=Df D;rw [hh] at this;simp at this;omega)]
  have e2:zR (Lib.itoa v) 0=some (-(v.toNat:Int)):=by rw [e];exact refDig_dec _ (by omega)
  rw [e2,Option.bind_some,if_neg (by omega)];have e3:-(-(v.toNat:Int))=v:=by omega
  rw [e3,if_pos rfl]
theorem refNum_some {a:List UInt8} {v:Int} (h:Bj a=some v):BI v/\Lib.itoa v=a:=by
 unfold Bj at h
 split at h
 ·cases d:zR a.tail 0 with
  | none=>rw [d] at h;cases h
  | some n=>
   rw [d,Option.bind_some] at h;have:=Dz _ _ _ (by omega) (by omega) d
   split at h
   ·rename_i he
    injection h with h;subst h;exact ⟨⟨by omega,by omega⟩,he⟩
   ·cases h
 ·cases d:zR a 0 with
  | none=>rw [d] at h;cases h
  | some n=>
   rw [d,Option.bind_some] at h;have:=Dz _ _ _ (by omega) (by omega) d
   split at h
   ·cases h
   ·split at h
    ·rename_i D he
     injection h with h;subst h;exact ⟨⟨by omega,by omega⟩,he⟩
    ·cases h
theorem parse_dec (u:Nat) (h:u<=9223372036854775808):Lib.parseUint10 0 (Lib.decDigits u)=.ok u:=by
 have app:∀(a b:List UInt8) (n m:Nat),Lib.parseUint10 n a=.ok m->Lib.parseUint10 n (a++b)=Lib.parseUint10 m b:=by
  intro a
  induction a with
  | nil=>intro b n m h;simp only [Lib.parseUint10] at h;injection h with h;subst h;rfl
  | cons c a ih=>
   intro b n m h;simp only [List.cons_append,Lib.parseUint10] at h⊢
   split at h
   ·rename_i h1
    rw [if_pos h1]
    split at h
    ·cases h
    ·rename_i h2
     rw [if_neg h2]
     split at h
     ·cases h
     ·rename_i h3
      rw [if_neg h3];exact ih b _ _ h
   ·cases h
 induction u using Nat.strongRecOn with
 | ind u ih=>
  by_cases d:u<10
  ·rw [Cn d];have:=Df d;simp only [Lib.parseUint10,this];rw [if_pos (by omega),if_neg (by omega),if_neg (by omega)];congr 1;omega
  ·rw [dec_big d,app _ _ _ _ (ih (u / 10) (by omega) (by omega))];have:=Df (Nat.mod_lt u (show 0<10 by decide));simp only [Lib.parseUint10,this];rw [if_pos (by omega),if_neg (by omega),if_neg (by omega)];congr 1;omega
theorem atoi_itoa {v:Int} (h:BI v):Lib.atoiAll (Lib.itoa v)=.ok v:=by
 obtain ⟨h0,h1⟩:=h;by_cases J:v<0
 ·have hp:=parse_dec v.natAbs (by omega);have E:Lib.decDigits v.natAbs≠[]:=by obtain ⟨k,-,l,D⟩:=dec_head v.natAbs;rw [D];simp
  have d:Lib.parseMag (Lib.decDigits v.natAbs)=.ok v.natAbs:=by unfold Lib.parseMag;rw [if_neg E];exact hp
  rw [Da J];unfold Lib.atoiAll;have e:(45:UInt8).toNat=45:=rfl;simp only [e];rw [if_pos (Or.inr trivial),d];simp only [true_and,not_true,false_and,if_false,if_true];rw [if_neg (by omega)];congr 1;omega
 ·have hp:=parse_dec v.toNat (by omega);obtain ⟨k,G,l,D⟩:=dec_head v.toNat;have I:=Df G;have d:Lib.parseMag (dgB k :: l)=.ok v.toNat:=by unfold Lib.parseMag;rw [if_neg (by simp),<-D];exact hp
  have n43:(dgB k).toNat≠43:=by omega
  have n45:(dgB k).toNat≠45:=by omega
  rw [BK (by omega),D];unfold Lib.atoiAll;simp only [n43,n45,or_self,if_false,not_false_eq_true,true_and,false_and];rw [d];simp only;rw [if_neg (by omega)];congr 1;omega
theorem numP_ref (c:UInt8) (l:List UInt8):numP c l=(BG c l).bind fun p=>(Bj p.1).map fun v=>(v,p.2):=by
 unfold numP
 cases BG c l with
 | none=>rfl
 | some p=>
  obtain ⟨a,b⟩:=p;simp only [Option.bind_some]
  cases d:Bj a with
  | some v=>
   obtain ⟨h1,h2⟩:=refNum_some d;have:=atoi_itoa h1;rw [h2] at this;rw [this];simp only;rw [if_pos h2];rfl
  | none=>
   rcases D:Lib.atoiAll a with v | _ | _
   ·simp only;rw [if_neg]
    ·rfl
    ·intro he;have:=Lib.atoiAll_bounds D;have:=refNum_of (v:=v) ⟨this.1,this.2⟩;rw [he,d] at this;cases this
   ·rfl
   ·rfl
end
end Go.Proofs.YtjomnbdjajjgfaaGreatDoor
