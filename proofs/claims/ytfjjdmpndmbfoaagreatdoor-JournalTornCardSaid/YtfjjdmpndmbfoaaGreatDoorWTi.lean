import Derived.Test.YtfjjdmpndmbfoaaGreatDoorWTh
set_option linter.unusedVariables false
set_option linter.unusedSimpArgs false
set_option maxRecDepth 100000
set_option maxHeartbeats 16000000
namespace Go.Proofs.YtfjjdmpndmbfoaaGreatDoor
variable {x:Bool} {l:List Int} {xs:List Value} {r sz:Nat} {o:Obj} {v vF' vT':Value} {w5 w9:World}
section
open Go.RowKit
theorem Tryz.infoTask:(Tryz.prog.info? 72).map (fun i=>(i.zero,i.size,i.bytes))=some (some (.agg #[.string ⟨#[]⟩,.slice none 0 0,.slice none 0 0]),3,64):=by kernel_rfl
theorem Tryz.infoBools:(Tryz.prog.info? 26).map (fun i=>(i.zero,i.size,i.bytes))=some (some (.slice none 0 0),1,24):=by kernel_rfl
def zP (B:Nat) (w:World) (g:Nat):Prop:=B<=g/\∃(v:Value) (k:Nat) (l:List Int),zg w g 67 #[v,.int .i64 k]/\zl w (fun b=>b<B) v l/\l.length<=9223372036854775807/\k<=l.length
section
variable {B:Nat} {w w':World} {g:Nat}
theorem zP.keep (h:zP B w g) (G:Below B w w') (d:w'.heap[g]?=w.heap[g]?):zP B w' g:=by
 obtain ⟨h0,v,k,l,h1,D,E⟩:=h;exact ⟨h0,v,k,l,d.trans h1,D.keep fun b d I=>G.block b d,E⟩
theorem zP.ext (h:zP B w g) (d:zc w w') (G:B<=w.heap.size):zP B w' g:=by
 obtain ⟨h0,v,k,l,h1,D,E⟩:=h;exact ⟨h0,v,k,l,(d.block g (za h1)).trans h1,D.below d,E⟩
theorem zP.lt (h:zP B w g):g<w.heap.size:=by
 obtain ⟨h0,v,k,l,h1,d,D⟩:=h;exact za h1
theorem zP.blk (h:zP B w g):∃cs,zg w g 67 cs:=by
 obtain ⟨h0,v,k,l,h1,d,D⟩:=h;exact ⟨_,h1⟩
theorem zL (n:Int) (h:zP B w g) (D:0<n) (E:n<=1000000):
  Calls Tryz.prog 24 #[.pointer (some ⟨g,0,none⟩),.int .i64 n] w fun e w'=>∃x,e=.returned (.int .i64 x)/\0<=x/\x<n/\zP B w' g/\w.grownBy w' (some g):=by
 obtain ⟨h0,v,k,l,h1,G,I,M⟩:=h;refine (draw_calls g k n w h1 G (by omega) I M D E).mono ?_;rintro e w' ⟨rfl,J,K⟩;refine ⟨_,rfl,?_,?_,⟨h0,v,drawK l k,l,J,G.keep fun b J d=>K.block b d (fun e=>by injection e with e;omega),I,?_⟩,K⟩
 ·unfold drawV
  split
  ·exact Int.emod_nonneg _ (by omega)
  ·exact Int.le_refl _
 ·unfold drawV
  split
  ·exact Int.emod_lt_of_pos _ D
  ·exact D
 ·unfold drawK
  split <;> omega
end
theorem Az {w w':World} {B:Nat} {e:TypeId} {n:Nat} (h:w.ownsRow B e sz v n xs) (G:∀g,v.ownBlock=some g->w'.heap[g]?=w.heap[g]?):w'.ownsRow B e sz v n xs:=by
 obtain ⟨d,h0 | ⟨g,cap,cur,rfl,h1,D,E⟩⟩:=h
 ·exact ⟨d,.inl h0⟩
 ·exact ⟨d,.inr ⟨g,cap,cur,rfl,h1,(G g rfl).trans D,E⟩⟩
def OwnB (w:World) (B:Nat) (v:Value) (l:List Bool):Prop:=w.ownsRow B 4 1 v l.length (l.map Value.bool)
theorem OwnB.bools {w:World} {B:Nat} {l:List Bool} (h:OwnB w B v l):AR w (fun b=>B<=b) v l:=Bc.of_own h
def BoolD (w:World) (B S n:Nat) (u:Value):Prop:=∃l,OwnB w B u l/\l.length=n/\∀g,u.ownBlock=some g->g<S
def TaskD (w:World) (B S n:Nat) (u1 u2:Value):Prop:=
 ∃l1 l2,zY w B u1 l1/\zY w B u2 l2/\(l1≠[]/\l2≠[])/\(l1.length<=2/\l2.length<=2)/\(∀x,x∈l1\/x∈l2->0<=x/\x<n)/\(∀g,u1.ownBlock=some g\/u2.ownBlock=some g->g<S)
section
variable {w w':World} {B S S' n:Nat} {u u1 u2:Value}
theorem BoolD.keep (h:BoolD w B S n u) (O:∀g cs,g<S->zg w g 4 cs->w'.heap[g]?=w.heap[g]?) (K:S<=S'):BoolD w' B S' n u:=by
 obtain ⟨l,h1,G,d⟩:=h;refine ⟨l,?_,G,fun g M=>Ef (d g M) K⟩;obtain ⟨E,h0 | ⟨g,cap,cur,rfl,I,D,J⟩⟩:=h1
 ·exact ⟨E,.inl h0⟩
 ·exact ⟨E,.inr ⟨g,cap,cur,rfl,I,(O g cur (d g rfl) D).trans D,J⟩⟩
theorem Bf (h:zY w B v l) (I:∀g cs,v.ownBlock=some g->zg w g 3 cs->w'.heap[g]?=w.heap[g]?):zY w' B v l:=by
 obtain ⟨D,h0 | ⟨g,cap,cur,rfl,E,d,G⟩⟩:=h
 ·exact ⟨D,.inl h0⟩
 ·exact ⟨D,.inr ⟨g,cap,cur,rfl,E,(I g cur rfl d).trans d,G⟩⟩
theorem TaskD.keep (h:TaskD w B S n u1 u2) (G:∀g cs,g<S->zg w g 3 cs->w'.heap[g]?=w.heap[g]?) (O:S<=S'):TaskD w' B S' n u1 u2:=by
 obtain ⟨l1,l2,h1,I,J,K,M,D⟩:=h;exact ⟨l1,l2,Bf h1 (fun g cs d E=>G g cs (D g (.inl d)) E),Bf I (fun g cs d E=>G g cs (D g (.inr d)) E),J,K,M,fun g d=>Ef (D g d) O⟩
theorem BoolD.store (h:BoolD w B S n u) (p:Addr) (hp:p.spot=none) (b:Bool):BoolD (w.setCell p (.bool b)) B S n u:=by
 obtain ⟨l,h1,E,G⟩:=h;obtain ⟨pb,po,ps⟩:=p;obtain rfl:ps=none:=hp;obtain ⟨I,⟨rfl,h0⟩ | ⟨g,cap,cur,rfl,J,K,M,O,Q,U⟩⟩:=h1
 ·exact ⟨l,⟨I,.inl ⟨rfl,h0⟩⟩,E,G⟩
 ·by_cases V:g=pb
  ·subst V;refine ⟨l.set po b,?_,by simpa using E,G⟩;have d:w.ownsRow B 4 1 (.slice (some ⟨g,0,none⟩) l.length cap) l.length (l.map Value.bool):=⟨I,.inr ⟨g,cap,cur,rfl,J,K,M,O,Q,U⟩⟩;have D:=(d.stored po (.bool b)).1;unfold OwnB;rw [List.length_set,List.map_set];exact D
  ·exact ⟨l,⟨I,.inr ⟨g,cap,cur,rfl,J,(DN w ⟨pb,po,none⟩ _ g V).trans K,M,O,Q,U⟩⟩,E,G⟩
end
structure MS (B:Nat) (w:World) (S gm gd:Nat) (W H L:Int) (n tF tT:Nat) (vF vU vT:Value) (fs ts:List Value):Prop where
 hB:B<=w.heap.size
 hS:S<=w.heap.size
 mz:zg w gm 29 #[.int .i64 W,.int .i64 H,.int .i64 L,vF,vU,vT]
 gm0:B<=gm
 dr:zP B w gd
 F:w.ownsRow B 26 1 vF tF fs
 T:w.ownsRow B 72 3 vT tT ts
 fd:∀j,j<tF->∃u,fs[j]?=some u/\BoolD w B S n u
 td:∀j,j<tT->∃(s:NetS) (u1 u2:Value),ts[j*3]?=some (.string s)/\ts[j*3+1]?=some u1/\ts[j*3+2]?=some u2/\TaskD w B S n u1 u2
section
variable {B:Nat} {w w':World} {S S' gm gd:Nat} {W H L:Int} {n tF tT:Nat} {vF vU vU' vT:Value} {fs ts:List Value}
theorem MS.keep (h:MS B w S gm gd W H L n tF tT vF vU vT fs ts) (U:w.heap.size<=w'.heap.size) (hm:w'.heap[gm]?=w.heap[gm]?) (hd:zP B w' gd)
  (hk:∀g ty cs,g<w.heap.size->zg w g ty cs->ty=26\/ty=72->g∉([]:List Nat)->w'.heap[g]?=w.heap[g]?) (E:∀g ty cs,g<S->zg w g ty cs->ty=4\/ty=3->w'.heap[g]?=w.heap[g]?) (V:S<=S') (K:S'<=w'.heap.size):
  MS B w' S' gm gd W H L n tF tT vF vU vT fs ts:=by
 refine ⟨DG h.hB U,K,hm.trans h.mz,h.gm0,hd,?_,?_,fun j Q=>?_,fun j Q=>?_⟩
 ·obtain ⟨G,h0 | ⟨g,cap,cur,rfl,D,d,J⟩⟩:=h.F
  ·exact ⟨G,.inl h0⟩
  ·exact ⟨G,.inr ⟨g,cap,cur,rfl,D,(hk g _ cur (za d) d (.inl rfl) (by simp)).trans d,J⟩⟩
 ·obtain ⟨G,h0 | ⟨g,cap,cur,rfl,D,d,J⟩⟩:=h.T
  ·exact ⟨G,.inl h0⟩
  ·exact ⟨G,.inr ⟨g,cap,cur,rfl,D,(hk g _ cur (za d) d (.inr rfl) (by simp)).trans d,J⟩⟩
 ·obtain ⟨u,h1,I⟩:=h.fd j Q;exact ⟨u,h1,I.keep (fun g cs O M=>E g _ cs O M (.inl rfl)) V⟩
 ·obtain ⟨s,u1,u2,h1,I,h3,D⟩:=h.td j Q;exact ⟨s,u1,u2,h1,I,h3,D.keep (fun g cs O M=>E g _ cs O M (.inr rfl)) V⟩
theorem MS.ext (h:MS B w S gm gd W H L n tF tT vF vU vT fs ts) (d:zc w w'):MS B w' w'.heap.size gm gd W H L n tF tT vF vU vT fs ts:=
 h.keep d.size (d.block gm (za h.mz)) (h.dr.ext d h.hB) (fun g _ _ D _ _ _=>d.block g D) (fun g _ _ D _ _=>d.block g (Ef D h.hS)) (DG h.hS d.size) (DE _)
theorem MS.extS (h:MS B w S gm gd W H L n tF tT vF vU vT fs ts) (d:zc w w'):MS B w' S gm gd W H L n tF tT vF vU vT fs ts:=
 h.keep d.size (d.block gm (za h.mz)) (h.dr.ext d h.hB) (fun g _ _ D _ _ _=>d.block g D) (fun g _ _ D _ _=>d.block g (Ef D h.hS)) (DE _) (DG h.hS d.size)
theorem MS.drawn (h:MS B w S gm gd W H L n tF tT vF vU vT fs ts) (J:zP B w' gd) (E:w.grownBy w' (some gd)):MS B w' S gm gd W H L n tF tT vF vU vT fs ts:=by
 obtain ⟨cs,I⟩:=h.dr.blk
 have D:∀g ty cs',zg w g ty cs'->ty≠67->w'.heap[g]?=w.heap[g]?:=fun g ty cs' d G=>E.block g (za d) (fun e=>by
  injection e with e;exact zg.ne_ d I G e)
 refine h.keep E.size (D gm _ _ h.mz (by decide)) J (fun g ty cs' _ d ht _=>D g ty cs' d (by rcases ht with rfl | rfl <;> decide)) (fun g ty cs' _ d ht=>D g ty cs' d (by rcases ht with rfl | rfl <;> decide)) (DE _) (DG h.hS E.size)
theorem MS.store (h:MS B w S gm gd W H L n tF tT vF vU vT fs ts) {g k:Nat} {cs:Array Value} (hb:zg w g 4 cs) (a1:B<=g) (b:Bool):MS B (w.setCell ⟨g,k,none⟩ (.bool b)) S gm gd W H L n tF tT vF vU vT fs ts:=by
 have E:∀g' ty cs',zg w g' ty cs'->ty≠4->(w.setCell ⟨g,k,none⟩ (.bool b)).heap[g']?=w.heap[g']?:=fun g' ty cs' d Q=>DN w ⟨g,k,none⟩ _ g' (zg.ne_ d hb Q)
 have I:(w.setCell ⟨g,k,none⟩ (.bool b)).heap.size=w.heap.size:=by simp [World.setCell]
 refine ⟨by rw [I];exact h.hB,by rw [I];exact h.hS,(E gm _ _ h.mz (by decide)).trans h.mz,h.gm0,?_,?_,?_,fun j O=>?_,fun j O=>?_⟩
 ·obtain ⟨cs',d⟩:=h.dr.blk;obtain ⟨h0,v,k',l,h1,G,J⟩:=h.dr;refine ⟨h0,v,k',l,(E gd _ _ d (by decide)).trans h1,?_,J⟩
  exact G.keep fun b' U a3=>DN w ⟨g,k,none⟩ _ b' (by
   show b'≠g;omega)
 ·exact Az h.F fun g' D=>by
   obtain ⟨hl,⟨rfl,_⟩ | ⟨g2,cap,cur,rfl,K,M,V⟩⟩:=h.F
   ·cases D
   ·have:g2=g':=by simpa [Value.ownBlock] using D
    subst this;exact E g2 _ _ M (by decide)
 ·exact Az h.T fun g' D=>by
   obtain ⟨hl,⟨rfl,_⟩ | ⟨g2,cap,cur,rfl,K,M,V⟩⟩:=h.T
   ·cases D
   ·have:g2=g':=by simpa [Value.ownBlock] using D
    subst this;exact E g2 _ _ M (by decide)
 ·obtain ⟨u,h1,G⟩:=h.fd j O;exact ⟨u,h1,G.store _ rfl b⟩
 ·obtain ⟨s,u1,u2,h1,G,J,K⟩:=h.td j O;exact ⟨s,u1,u2,h1,G,J,K.keep (fun g' cs' _ d=>E g' _ cs' d (by decide)) (DE _)⟩
theorem MS.addT (h:MS B w S gm gd W H L n tF tT vF vU vT fs ts) {s:NetS} {u1 u2:Value} (hd:TaskD w B S n u1 u2) (ho:w5.ownsRow B 72 3 vT' (tT+1) (ts++[.string s,u1,u2])) (hg:(w.alloc o).grownBy w5 vT.ownBlock):
  MS B (w5.setCell ⟨gm,5,none⟩ vT') S gm gd W H L n tF (tT+1) vF vU vT' fs (ts++[.string s,u1,u2])/\
   (∀g ty cs,zg w g ty cs->ty≠72->ty≠29->(w5.setCell ⟨gm,5,none⟩ vT').heap[g]?=w.heap[g]?)/\Below B w (w5.setCell ⟨gm,5,none⟩ vT'):=by
 have h1:∀g ty cs,zg w g ty cs->ty≠72->w5.heap[g]?=w.heap[g]?:=fun g ty cs D G=>(hg.block g (by have:=za D;simp;omega) (fun e=>zf h.T D (Ne.symm G) e.symm)).trans (DW _ _ _ (za D))
 have O:zg w5 gm 29 #[.int .i64 W,.int .i64 H,.int .i64 L,vF,vU,vT]:=(h1 gm _ _ h.mz (by decide)).trans h.mz;have J:∀g ty cs,zg w g ty cs->ty≠72->ty≠29->(w5.setCell ⟨gm,5,none⟩ vT').heap[g]?=w.heap[g]?:=fun g ty cs D G U=>(DN w5 ⟨gm,5,none⟩ _ g (zg.ne_ D h.mz U)).trans (h1 g ty cs D G)
 have Q:w.heap.size<=(w5.setCell ⟨gm,5,none⟩ vT').heap.size:=by have:=hg.size;simp [World.setCell] at this⊢;omega
 have E:Below B w (w5.setCell ⟨gm,5,none⟩ vT'):=by
  have K:Below B w (w.alloc o):=(Below.refl B w).alloc h.hB _;have I:Below B w w5:=K.grown hg (by simp;have:=h.hB;omega) (fun k hk=>(h.T.lt k hk).1);exact I.setCell (p:=⟨gm,5,none⟩) h.gm0 _
 refine ⟨⟨DG h.hB Q,DG h.hS Q,O.set (k:=5) vT',h.gm0,?_,?_,?_,fun j hj=>?_,fun j hj=>?_⟩,J,E⟩
 ·obtain ⟨cs,D⟩:=h.dr.blk;exact h.dr.keep E (J gd _ _ D (by decide) (by decide))
 ·exact Az h.F fun g d=>by
   obtain ⟨hl,⟨e,_⟩ | ⟨g2,cap,cur,e,I,V,h6⟩⟩:=h.F
   ·rw [e] at d;cases d
   ·rw [e] at d;have:g2=g:=by simpa [Value.ownBlock] using d
    subst this;exact J g2 _ _ V (by decide) (by decide)
 ·exact Az ho fun g d=>DN w5 ⟨gm,5,none⟩ _ g (fun e=>by
   have e':g=gm:=e;subst e';exact zf ho O (by decide) d)
 ·obtain ⟨u,K,I⟩:=h.fd j hj;exact ⟨u,K,I.keep (fun g cs _ D=>J g _ cs D (by decide) (by decide)) (DE _)⟩
 ·have a4:ts.length=tT*3:=h.T.1;have M:∀{a b:Value},TaskD w B S n a b->TaskD (w5.setCell ⟨gm,5,none⟩ vT') B S n a b:=fun hh=>hh.keep (fun g cs _ D=>J g _ cs D (by decide) (by decide)) (DE _)
  rcases Ea j tT with hj2 | hj2
  ·obtain ⟨s',a,b,K,I,V,h6⟩:=h.td j hj2;exact ⟨s',a,b,by rw [DJ (by omega)];exact K,by rw [DJ (by omega)];exact I,by rw [DJ (by omega)];exact V,M h6⟩
  ·have a1:j=tT:=by omega
   subst a1;refine ⟨s,u1,u2,?_,?_,?_,M hd⟩
   ·rw [DK (by omega),show j*3 - ts.length=0 from by omega];rfl
   ·rw [DK (by omega),show j*3+1 - ts.length=1 from by omega];rfl
   ·rw [DK (by omega),show j*3+2 - ts.length=2 from by omega];rfl
theorem MS.addF (h:MS B w S gm gd W H L n tF tT vF vU vT fs ts) {u:Value} (hd:BoolD w B S n u) (ho:w5.ownsRow B 26 1 vF' (tF+1) (fs++[u])) (hg:(w.alloc o).grownBy w5 vF.ownBlock):
  MS B (w5.setCell ⟨gm,3,none⟩ vF') S gm gd W H L n (tF+1) tT vF' vU vT (fs++[u]) ts/\Below B w (w5.setCell ⟨gm,3,none⟩ vF'):=by
 have h1:∀g ty cs,zg w g ty cs->ty≠26->w5.heap[g]?=w.heap[g]?:=fun g ty cs D G=>(hg.block g (by have:=za D;simp;omega) (fun e=>zf h.F D (Ne.symm G) e.symm)).trans (DW _ _ _ (za D))
 have M:zg w5 gm 29 #[.int .i64 W,.int .i64 H,.int .i64 L,vF,vU,vT]:=(h1 gm _ _ h.mz (by decide)).trans h.mz;have U:∀g ty cs,zg w g ty cs->ty≠26->ty≠29->(w5.setCell ⟨gm,3,none⟩ vF').heap[g]?=w.heap[g]?:=fun g ty cs D G Q=>(DN w5 ⟨gm,3,none⟩ _ g (zg.ne_ D h.mz Q)).trans (h1 g ty cs D G)
 have O:w.heap.size<=(w5.setCell ⟨gm,3,none⟩ vF').heap.size:=by have:=hg.size;simp [World.setCell] at this⊢;omega
 have E:Below B w (w5.setCell ⟨gm,3,none⟩ vF'):=by
  have J:Below B w (w.alloc o):=(Below.refl B w).alloc h.hB _;have I:Below B w w5:=J.grown hg (by simp;have:=h.hB;omega) (fun k hk=>(h.F.lt k hk).1);exact I.setCell (p:=⟨gm,3,none⟩) h.gm0 _
 refine ⟨⟨DG h.hB O,DG h.hS O,M.set (k:=3) vF',h.gm0,?_,?_,?_,fun j hj=>?_,fun j hj=>?_⟩,E⟩
 ·obtain ⟨cs,D⟩:=h.dr.blk;exact h.dr.keep E (U gd _ _ D (by decide) (by decide))
 ·exact Az ho fun g d=>DN w5 ⟨gm,3,none⟩ _ g (fun e=>by
   have e':g=gm:=e;subst e';exact zf ho M (by decide) d)
 ·exact Az h.T fun g d=>by
   obtain ⟨hl,⟨e,_⟩ | ⟨g2,cap,cur,e,I,V,h6⟩⟩:=h.T
   ·rw [e] at d;cases d
   ·rw [e] at d;have:g2=g:=by simpa [Value.ownBlock] using d
    subst this;exact U g2 _ _ V (by decide) (by decide)
 ·have a4:fs.length=tF:=by have:=h.F.1;omega
  have K:∀{a:Value},BoolD w B S n a->BoolD (w5.setCell ⟨gm,3,none⟩ vF') B S n a:=fun hh=>hh.keep (fun g cs _ D=>U g _ cs D (by decide) (by decide)) (DE _)
  rcases Ea j tF with hj2 | hj2
  ·obtain ⟨a,J,I⟩:=h.fd j hj2;exact ⟨a,by rw [DJ (by omega)];exact J,K I⟩
  ·have a1:j=tF:=by omega
   subst a1;exact ⟨u,by rw [DK (by omega),show j - fs.length=0 from by omega];rfl,K hd⟩
 ·obtain ⟨s,u1,u2,J,I,V,h6⟩:=h.td j hj;exact ⟨s,u1,u2,J,I,V,h6.keep (fun g cs _ D=>U g _ cs D (by decide) (by decide)) (DE _)⟩
theorem MS.addU (h:MS B w S gm gd W H L n tF tT vF vU vT fs ts) {us:List Bool} (a7:B<=S) (hu:OwnB w S vU us) (ho:w5.ownsRow S 4 1 vU' (us.length+1) (us.map Value.bool++[.bool x])) (hg:(w.alloc o).grownBy w5 vU.ownBlock):
  MS B (w5.setCell ⟨gm,4,none⟩ vU') S gm gd W H L n tF tT vF vU' vT fs ts/\OwnB (w5.setCell ⟨gm,4,none⟩ vU') S vU' (us++[x])/\Below B w (w5.setCell ⟨gm,4,none⟩ vU'):=by
 have h1:∀g ty cs,zg w g ty cs->ty≠4\/g<S->w5.heap[g]?=w.heap[g]?:=fun g ty cs D hty=>(hg.block g (by have:=za D;simp;omega) (fun e=>by
  rcases hty with hty | hty
  ·exact zf hu D (Ne.symm hty) e.symm
  ·have:=(World.ownsRow.lt hu g e.symm).1;omega)).trans (DW _ _ _ (za D))
 have K:zg w5 gm 29 #[.int .i64 W,.int .i64 H,.int .i64 L,vF,vU,vT]:=(h1 gm _ _ h.mz (.inl (by decide))).trans h.mz;have Q:∀g ty cs,zg w g ty cs->ty≠4\/g<S->ty≠29->(w5.setCell ⟨gm,4,none⟩ vU').heap[g]?=w.heap[g]?:=fun g ty cs D hty O=>(DN w5 ⟨gm,4,none⟩ _ g (zg.ne_ D h.mz O)).trans (h1 g ty cs D hty)
 have M:w.heap.size<=(w5.setCell ⟨gm,4,none⟩ vU').heap.size:=by have:=hg.size;simp [World.setCell] at this⊢;omega
 have E:Below B w (w5.setCell ⟨gm,4,none⟩ vU'):=by
  have J:Below B w (w.alloc o):=(Below.refl B w).alloc h.hB _;have I:Below B w w5:=J.grown hg (by simp;have:=h.hB;omega) (fun k hk=>by have:=(World.ownsRow.lt hu k hk).1;omega);exact I.setCell (p:=⟨gm,4,none⟩) h.gm0 _
 have G:∀{e:TypeId} {sz k:Nat} {v:Value} {xs:List Value},w.ownsRow B e sz v k xs->e≠4->e≠29->(w5.setCell ⟨gm,4,none⟩ vU').ownsRow B e sz v k xs:=fun hr he V=>Az hr fun g d=>by
  obtain ⟨hl,⟨e,_⟩ | ⟨g2,cap,cur,e,I,U,h6⟩⟩:=hr
  ·rw [e] at d;cases d
  ·rw [e] at d;have:g2=g:=by simpa [Value.ownBlock] using d
   subst this;exact Q g2 _ _ U (.inl he) V
 refine ⟨⟨DG h.hB M,DG h.hS M,K.set (k:=4) vU',h.gm0,?_,G h.F (by decide) (by decide),G h.T (by decide) (by decide),fun j hj=>?_,fun j hj=>?_⟩,?_,E⟩
 ·obtain ⟨cs,D⟩:=h.dr.blk;exact h.dr.keep E (Q gd _ _ D (.inl (by decide)) (by decide))
 ·obtain ⟨u,J,I⟩:=h.fd j hj;exact ⟨u,J,I.keep (fun g cs a1 D=>Q g _ cs D (.inr a1) (by decide)) (DE _)⟩
 ·obtain ⟨s,u1,u2,J,I,U,h6⟩:=h.td j hj;exact ⟨s,u1,u2,J,I,U,h6.keep (fun g cs _ D=>Q g _ cs D (.inl (by decide)) (by decide)) (DE _)⟩
 ·unfold OwnB;rw [DM,Ed,Et]
  exact Az ho fun g d=>DN w5 ⟨gm,4,none⟩ _ g (fun e=>by
   have e':g=gm:=e;subst e';exact zf ho K (by decide) d)
end
structure R1 (B:Nat) (w:World) (S ge gt n:Nat) (s:NetS) (u1 u2:Value) (l1 l2:List Int):Prop where
 hB:B<=S
 hS:S<=w.heap.size
 dr:zP B w ge
 hge:S<=ge
 tk:zg w gt 72 #[.string s,u1,u2]
 hgt:S<=gt
 o1:zY w S u1 l1
 o2:zY w S u2 l2
 ne:u1.ownBlock=none\/u1.ownBlock≠u2.ownBlock
 e1:l1≠[]
 e2:l2≠[]
 rg:∀x,x∈l1\/x∈l2->0<=x/\x<(n:Int)
section
variable {B:Nat} {w w':World} {S ge gt n:Nat} {s:NetS} {u1 u2:Value} {l1 l2:List Int}
theorem R1.keep (h:R1 B w S ge gt n s u1 u2 l1 l2) (E:Below B w w') (D:∀g ty cs,zg w g ty cs->ty=67\/ty=72\/ty=3->w'.heap[g]?=w.heap[g]?):R1 B w' S ge gt n s u1 u2 l1 l2:=by
 obtain ⟨cs,d⟩:=h.dr.blk;exact ⟨h.hB,DG h.hS E.size,h.dr.keep E (D ge _ _ d (.inl rfl)),h.hge,(D gt _ _ h.tk (.inr (.inl rfl))).trans h.tk,h.hgt,Bf h.o1 (fun g cs _ d=>D g _ cs d (.inr (.inr rfl))),Bf h.o2 (fun g cs _ d=>D g _ cs d (.inr (.inr rfl))),h.ne,h.e1,h.e2,h.rg⟩
theorem R1.ext (h:R1 B w S ge gt n s u1 u2 l1 l2) (d:zc w w'):R1 B w' S ge gt n s u1 u2 l1 l2:=
 h.keep (d.mono (DG h.hB h.hS)) (fun g _ _ D _=>d.block g (za D))
theorem R1.drawn (h:R1 B w S ge gt n s u1 u2 l1 l2) (J:zP B w' ge) (I:w.grownBy w' (some ge)):R1 B w' S ge gt n s u1 u2 l1 l2:=by
 obtain ⟨cs,D⟩:=h.dr.blk
 have d:∀g ty cs',zg w g ty cs'->ty≠67->w'.heap[g]?=w.heap[g]?:=fun g ty cs' E G=>I.block g (za E) (fun e=>by
  injection e with e;exact zg.ne_ E D G e)
 exact ⟨h.hB,DG h.hS I.size,J,h.hge,(d gt _ _ h.tk (by decide)).trans h.tk,h.hgt,Bf h.o1 (fun g cs _ D=>d g _ cs D (by decide)),Bf h.o2 (fun g cs _ D=>d g _ cs D (by decide)),h.ne,h.e1,h.e2,h.rg⟩
theorem R1.drawnExt {wR:World} (h:R1 B w wR.heap.size ge gt n s u1 u2 l1 l2) (d:zc wR w) (E:w.grownBy w' (some ge)):zc wR w':=
 Below.grown d E d.size (fun k D=>by injection D with D;have:=h.hge;omega)
theorem R1.add1 (h:R1 B w S ge gt n s u1 u2 l1 l2) {u1':Value} {x:Int} (hx:0<=x/\x<(n:Int)) (M:w5.ownsRow S 3 1 u1' (l1.length+1) (l1.map (Value.int .i64)++[.int .i64 x])) (K:(w.alloc o).grownBy w5 u1.ownBlock)
  (hv:u1'.ownBlock=u1.ownBlock\/u1'.ownBlock=some (w.heap.size+1)):R1 B (w5.setCell ⟨gt,1,none⟩ u1') S ge gt n s u1' u2 (l1++[x]) l2/\Below S w (w5.setCell ⟨gt,1,none⟩ u1'):=by
 obtain ⟨cs,d⟩:=h.dr.blk;have h1:∀g ty cs,zg w g ty cs->u1.ownBlock≠some g->w5.heap[g]?=w.heap[g]?:=fun g ty cs d G=>(K.block g (by have:=za d;simp;omega) (fun e=>G e.symm)).trans (DW _ _ _ (za d))
 have I:zg w5 gt 72 #[.string s,u1,u2]:=(h1 gt _ _ h.tk (zf h.o1 h.tk (by decide))).trans h.tk;have U:∀g ty cs,zg w g ty cs->u1.ownBlock≠some g->ty≠72->(w5.setCell ⟨gt,1,none⟩ u1').heap[g]?=w.heap[g]?:=fun g ty cs d G Q=>(DN w5 ⟨gt,1,none⟩ _ g (zg.ne_ d h.tk Q)).trans (h1 g ty cs d G)
 have O:w.heap.size<=(w5.setCell ⟨gt,1,none⟩ u1').heap.size:=by have:=K.size;simp [World.setCell] at this⊢;omega
 have D:Below S w (w5.setCell ⟨gt,1,none⟩ u1'):=by
  have V:Below S w (w.alloc o):=(Below.refl S w).alloc h.hS _;have h4:Below S w w5:=V.grown K (by simp;have:=h.hS;omega) (fun k hk=>(World.ownsRow.lt h.o1 k hk).1);exact h4.setCell (p:=⟨gt,1,none⟩) h.hgt _
 refine ⟨⟨h.hB,DG h.hS O,h.dr.keep (D.mono h.hB) (U ge _ _ d (zf h.o1 d (by decide)) (by decide)),h.hge,I.set (k:=1) u1',h.hgt,?_,?_,?_,by simp,h.e2,?_⟩,D⟩
 ·show World.ownsRow _ _ _ _ _ (l1++[x]).length _;rw [DM,Ed,Et]
  exact Az M fun g E=>DN w5 ⟨gt,1,none⟩ _ g (fun e=>by
   have e':g=gt:=e;subst e';exact zf M I (by decide) E)
 ·exact Bf h.o2 (fun g cs E J=>U g _ cs J (fun e=>by
   rcases h.ne with hn | hn
   ·rw [hn] at e;cases e
   ·exact hn (e.trans E.symm)) (by decide))
 ·right
  rcases hv with hv | hv
  ·rw [hv];rcases h.ne with hn | hn
   ·rw [hn] at hv;obtain ⟨g,c,e,_,_⟩:=World.ownsRow.form M (by omega);rw [e] at hv;cases hv
   ·exact hn
  ·rw [hv];intro e;have:=(World.ownsRow.lt h.o2 _ e.symm).2;omega
 ·intro y hy;rcases hy with hy | hy
  ·rcases Es.1 hy with hy | hy
   ·exact h.rg y (.inl hy)
   ·rw [Ek] at hy;rw [hy];exact hx
  ·exact h.rg y (.inr hy)
theorem R1.add2 (h:R1 B w S ge gt n s u1 u2 l1 l2) {u2':Value} {x:Int} (hx:0<=x/\x<(n:Int)) (U:w5.ownsRow S 3 1 u2' (l2.length+1) (l2.map (Value.int .i64)++[.int .i64 x])) (K:(w.alloc o).grownBy w5 u2.ownBlock)
  (hv:u2'.ownBlock=u2.ownBlock\/u2'.ownBlock=some (w.heap.size+1)):R1 B (w5.setCell ⟨gt,2,none⟩ u2') S ge gt n s u1 u2' l1 (l2++[x])/\Below S w (w5.setCell ⟨gt,2,none⟩ u2'):=by
 obtain ⟨cs,D⟩:=h.dr.blk;have h1:∀g ty cs,zg w g ty cs->u2.ownBlock≠some g->w5.heap[g]?=w.heap[g]?:=fun g ty cs D G=>(K.block g (by have:=za D;simp;omega) (fun e=>G e.symm)).trans (DW _ _ _ (za D))
 have I:zg w5 gt 72 #[.string s,u1,u2]:=(h1 gt _ _ h.tk (zf h.o2 h.tk (by decide))).trans h.tk;have Q:∀g ty cs,zg w g ty cs->u2.ownBlock≠some g->ty≠72->(w5.setCell ⟨gt,2,none⟩ u2').heap[g]?=w.heap[g]?:=fun g ty cs D G O=>(DN w5 ⟨gt,2,none⟩ _ g (zg.ne_ D h.tk O)).trans (h1 g ty cs D G)
 have M:w.heap.size<=(w5.setCell ⟨gt,2,none⟩ u2').heap.size:=by have:=K.size;simp [World.setCell] at this⊢;omega
 have E:Below S w (w5.setCell ⟨gt,2,none⟩ u2'):=by
  have V:Below S w (w.alloc o):=(Below.refl S w).alloc h.hS _;have h4:Below S w w5:=V.grown K (by simp;have:=h.hS;omega) (fun k hk=>(World.ownsRow.lt h.o2 k hk).1);exact h4.setCell (p:=⟨gt,2,none⟩) h.hgt _
 refine ⟨⟨h.hB,DG h.hS M,h.dr.keep (E.mono h.hB) (Q ge _ _ D (zf h.o2 D (by decide)) (by decide)),h.hge,I.set (k:=2) u2',h.hgt,?_,?_,?_,h.e1,by simp,?_⟩,E⟩
 ·exact Bf h.o1 (fun g cs d J=>Q g _ cs J (fun e=>by
   rcases h.ne with hn | hn
   ·rw [hn] at d;cases d
   ·exact hn (d.trans e.symm)) (by decide))
 ·show World.ownsRow _ _ _ _ _ (l2++[x]).length _;rw [DM,Ed,Et]
  exact Az U fun g d=>DN w5 ⟨gt,2,none⟩ _ g (fun e=>by
   have e':g=gt:=e;subst e';exact zf U I (by decide) d)
 ·rcases hv with hv | hv
  ·rw [hv];exact h.ne
  ·by_cases h0:u1.ownBlock=none
   ·exact .inl h0
   ·right
    rw [hv];intro e;have:=(World.ownsRow.lt h.o1 _ e).2;omega
 ·intro y hy;rcases hy with hy | hy
  ·exact h.rg y (.inl hy)
  ·rcases Es.1 hy with hy | hy
   ·exact h.rg y (.inr hy)
   ·rw [Ek] at hy;rw [hy];exact hx
theorem R1.taskD (h:R1 B w S ge gt n s u1 u2 l1 l2) (k1:l1.length<=2) (k2:l2.length<=2):TaskD w B w.heap.size n u1 u2:=
 ⟨l1,l2,World.ownsRow.mono h.o1 h.hB,World.ownsRow.mono h.o2 h.hB,⟨h.e1,h.e2⟩,⟨k1,k2⟩,h.rg,fun g hg=>by
  rcases hg with hg | hg
  ·exact (World.ownsRow.lt h.o1 g hg).2
  ·exact (World.ownsRow.lt h.o2 g hg).2⟩
end
theorem OwnB.app {S:Nat} {v':Value} {l:List Bool} (d:w5.ownsRow S 4 1 v' (l.length+1) (l.map Value.bool++[.bool x])):OwnB w5 S v' (l++[x]):=by
 unfold OwnB;rw [DM,Ed,Et];exact d
theorem R1.grownB {B:Nat} {w:World} {S S2 ge gt n:Nat} {s:NetS} {u1 u2:Value} {l1 l2:List Int} {l:List Bool} (h:R1 B w S ge gt n s u1 u2 l1 l2) (I:OwnB w S2 v l) (K:S<=S2) (G:(w.alloc o).grownBy w5 v.ownBlock):R1 B w5 S ge gt n s u1 u2 l1 l2/\Below S w w5:=by
 have d:Below S w w5:=by
  have J:Below S w (w.alloc o):=(Below.refl S w).alloc h.hS _;exact J.grown G (by simp;have:=h.hS;omega) (fun k M=>DG K (World.ownsRow.lt I k M).1)
 refine ⟨h.keep (d.mono h.hB) fun g ty cs D E=>?_,d⟩;exact (G.block g (by have:=za D;simp;omega) (fun e=>zf I D (by rcases E with rfl | rfl | rfl <;> decide) e.symm)).trans (DW _ _ _ (za D))
theorem cells3n (w:World) (a b c:Value) (t:TypeId):∀j u,[a,b,c][j]?=some u->(w.alloc (.cells #[a,b,c] t)).cell? ((⟨w.heap.size,0,none⟩:Addr).add j)=some u:=by
 intro j u d;have D:zg (w.alloc (.cells #[a,b,c] t)) w.heap.size t #[a,b,c]:=zg.new _ _ _ rfl
 match j,d with
 | 0,d=>exact D.cell (k:=0) d
 | 1,d=>exact D.cell (k:=1) d
 | 2,d=>exact D.cell (k:=2) d
section
variable {B:Nat} {w:World} {S S2 gm gd ge gt:Nat} {W H L:Int} {n t:Nat} {vF vU vT vf:Value} {fs ts:List Value} {s:NetS} {u1 u2:Value} {l1 l2:List Int} {lf:List Bool}
theorem MS.end1 (h:MS B w w.heap.size gm gd W H L n t t vF vU vT fs ts) (M:R1 B w S ge gt n s u1 u2 l1 l2) (k1:l1.length<=2) (k2:l2.length<=2) (D:OwnB w S2 vf lf) (K:w9.ownsRow B 72 3 vT' (t+1) (ts++[.string s,u1,u2])) (J:(w.alloc o).grownBy w9 vT.ownBlock):
  MS B (w9.setCell ⟨gm,5,none⟩ vT') w.heap.size gm gd W H L n t (t+1) vF vU vT' fs (ts++[.string s,u1,u2])/\OwnB (w9.setCell ⟨gm,5,none⟩ vT') S2 vf lf/\Below B w (w9.setCell ⟨gm,5,none⟩ vT'):=by
 obtain ⟨h1,E,G⟩:=h.addT (M.taskD k1 k2) K J;refine ⟨h1,Az D fun g d=>?_,G⟩;obtain ⟨U,⟨e,_⟩ | ⟨g2,cap,cur,e,O,I,Q⟩⟩:=D
 ·rw [e] at d;cases d
 ·rw [e] at d;have:g2=g:=by simpa [Value.ownBlock] using d
  subst this;exact E g2 _ _ I (by decide) (by decide)
theorem MS.end2 (h:MS B w S gm gd W H L n t (t+1) vF vU vT fs ts) (I:OwnB w S2 vf lf) (d:lf.length=n) (D:B<=S2) (E:∀g,vf.ownBlock=some g->g<S) (K:w9.ownsRow B 26 1 vF' (t+1) (fs++[vf])) (J:(w.alloc o).grownBy w9 vF.ownBlock):
  MS B (w9.setCell ⟨gm,3,none⟩ vF') (w9.setCell ⟨gm,3,none⟩ vF').heap.size gm gd W H L n (t+1) (t+1) vF' vU vT (fs++[vf]) ts/\Below B w (w9.setCell ⟨gm,3,none⟩ vF'):=by
 obtain ⟨h1,G⟩:=h.addF ⟨lf,World.ownsRow.mono I D,d,E⟩ K J;exact ⟨h1.ext (zc.refl _),G⟩
theorem MS.c5 (h:MS B w S gm gd W H L n t (t+1) vF vU vT fs ts):w.cell? ⟨gm,3,none⟩=some vF:=h.mz.cell (k:=3) rfl
end
theorem hasB {w:World} {B:Nat} {u:Value} (k:Int) (o:zY w B u l) (D:l.length<=1000):∃b,∀W,zc w W->Calls Tryz.prog 26 #[u,.int .i64 k] W fun e w'=>e=.returned (.bool b)/\W=w':=
 ⟨_,fun W d=>has_calls k W (zl.below (Bc.of_own o) d) (by omega)⟩
theorem own_blkB {w:World} {B n g c:Nat} {e:TypeId} (h:w.ownsRow B e sz (.slice (some ⟨g,0,none⟩) n c) n xs):∃cs,zg w g e cs:=by
 obtain ⟨_,⟨e,_⟩ | ⟨g2,cap,cur,e,_,d,_⟩⟩:=h
 ·cases e
 ·injection e with e _ _;injection e with e;injection e with e;subst e;exact ⟨cur,d⟩
theorem MS.stored {B:Nat} {w1 w:World} {S gm gd g k:Nat} {W H L:Int} {n tF tT:Nat} {vF vU vT:Value} {fs ts:List Value} (h:MS B w S gm gd W H L n tF tT vF vU vT fs ts) (G:zc w1 w) (J:B=w1.heap.size) (d:∃cs,zg w g 4 cs) (I:B<=g) (b:Bool):
  MS B (w.drew.setCell ⟨g,k,none⟩ (.bool b)) (w.drew.setCell ⟨g,k,none⟩ (.bool b)).heap.size gm gd W H L n tF tT vF vU vT fs ts/\zc w1 (w.drew.setCell ⟨g,k,none⟩ (.bool b)):=by
 obtain ⟨cs,d⟩:=d;have h1:=h.extS ((zc.refl w).drew);have D:zg w.drew g 4 cs:=d;have E:=h1.store (k:=k) D I b;exact ⟨E.ext (zc.refl _),G.drew.setCell (p:=⟨g,k,none⟩) (by show w1.heap.size<=g;omega) _⟩
end
section
open Go.RowKit Go.Shelf
attribute [local go_sem ↓] Go.wp_at_zero Go.wp_at_succ
abbrev Rd:=List UInt8×Bool
def AZ (s:Rd):Int×Rd:=match numS 59 s with
 | some (v,b)=>(v,(b,false))
 | none=>(0,([],true))
theorem intF_bound (s:Rd):Cp (AZ s).1:=by
 unfold AZ numS numP
 split
 ·rename_i v b h
  split at h
  ·cases h
  ·split at h
   ·cases h
   ·split at h
    ·rename_i d
     split at h
     ·injection h with h;injection h with h1 D;subst h1;exact ⟨(Lib.atoiAll_bounds d).1,(Lib.atoiAll_bounds d).2⟩
     ·cases h
    ·cases h
 ·exact ⟨by decide,by decide⟩
theorem intF_len (s:Rd):(AZ s).2.1.length<=s.1.length/\((AZ s).2.2=false->(AZ s).2.1.length<s.1.length):=by
 unfold AZ numS numP
 split
 ·rename_i v b h
  split at h
  ·cases h
  ·split at h
   ·cases h
   ·rename_i D
    have:=(Ct D).2
    split at h
    ·split at h
     ·injection h with h;injection h with h1 d;subst d;rw [this];exact ⟨by simp;omega,fun _=>by simp;omega⟩
     ·cases h
    ·cases h
 ·exact ⟨by simp,fun h=>by cases h⟩
theorem intF_bad {s:Rd} (h:s.2=true):AZ s=(0,([],true)):=by
 unfold AZ numS;rw [if_pos h]
theorem rInt_calls {s:Rd} (w:World) (Q:zq w) (h:RdAt w r s) (K:s.1.length<=281474976710656):Calls Tryz.prog 89 #[.pointer (some ⟨r,0,none⟩)] w fun e w'=>e=.returned (.int .i64 (AZ s).1)/\zk (·=r) w w'/\RdAt w' r (AZ s).2:=by
 have D:=zh (number_calls 59 w Q h K);have d:Hid (∀o,o=numS 59 s->AZ s=match o with | some (v,b)=>(v,(b,false)) | none=>(0,([],true))):=fun o U=>by rw [U];rfl
 generalize numS 59 s=o at D d;have d:=zh (d.out o rfl);generalize AZ s=i at d;clear Q h K
 go_enter Tryz.func89,Tryz.ntmps89
 cases o with
 | none=>
  go_wp2_with fail
  refine D.out.mono ?_;rintro e w1 ⟨E,-,M⟩;obtain ⟨rfl,G⟩:=M rfl;have J:=zh G;have I:=zh E;clear E M G D
  go_wp2_with fail
  go_ret;have e:=d.out;subst e;exact ⟨rfl,I.out,J.out⟩
 | some p=>
  obtain ⟨v,b⟩:=p
  go_wp2_with fail
  refine D.out.mono ?_;rintro e w1 ⟨E,O,-⟩;obtain ⟨rfl,G⟩:=O v b rfl;have J:=zh G;have I:=zh E;clear E O G D
  go_wp2_with fail
  go_ret;have e:=d.out;subst e;exact ⟨rfl,I.out,J.out⟩
def AY:Nat->Rd->List Int->List Int×Rd
 | 0,s,l=>(l,s)
 | f+1,s,l=>if AF s=0\/s.1.head?=some 93 then (l,s) else AY f (AZ s).2 (l++[(AZ s).1])
def intsE (p:List Int×Rd):List Int×Rd:=if AF p.2=0 then ([],([],true)) else (p.1,(p.2.1.tail,false))
def AN (s:Rd):List Int×Rd:=if AF s=0\/s.1.head?≠some 91 then ([],([],true)) else intsE (AY s.1.tail.length (s.1.tail,false) [])
theorem intF_nil (s:Rd) (h:(AZ s).2.2=true):(AZ s).2.1=[]:=by
 unfold AZ at h⊢
 cases d:numS 59 s with
 | none=>rfl
 | some p=>rw [d] at h;cases h
theorem intF_dec {s:Rd} {n:Nat} (h:s.1.length<=n+1):(AZ s).2.1.length<=n:=by
 cases d:(AZ s).2.2 with
 | false=>have:=(intF_len s).2 d;omega
 | true=>rw [intF_nil s d];simp
def rdSize (r:Nat) (w:World):Nat:=match w.cell? ⟨r,0,none⟩ with
 | some (.string s)=>s.size
 | _=>0
theorem rdSize_of {s:Rd} {w:World} (h:RdAt w r s):rdSize r w=s.1.length:=by
 unfold rdSize;rw [h.cell (k:=0) rfl];simp [ByteArray.size]
theorem head_get {l:List UInt8} (h:0<l.length):∃x l',l=x :: l'/\(ByteArray.mk l.toArray)[0]'h=x:=by
 cases l with
 | nil=>simp at h
 | cons x l'=>exact ⟨x,l',rfl,rfl⟩
theorem own_chgR {w w':World} {B:Nat} {e t:TypeId} {n:Nat} {cs:Array Value} (h:w.ownsRow B e sz v n xs) (G:zg w r t cs) (d:e≠t) (E:zk (·=r) w w'):w'.ownsRow B e sz v n xs:=
 Az h fun g D=>E.block g (World.ownsRow.lt h g D).2 (fun e=>by subst e;exact zf h G d D)
theorem chg_below {X:Nat->Prop} {a b c:World} {B:Nat} (h:zk X a b) (d:Below B b c) (G:a.heap.size<=B:=by exact DE _):zk X a c:=
 ⟨d.os.trans h.os,d.tape.trans h.tape,d.output.trans h.output,DG h.size d.size,fun k D E=>(d.block k (by omega)).trans (h.block k D E)⟩
theorem elsF_fuel:∀(f f':Nat) (s:Rd) (l:List Int),s.1.length<=f->s.1.length<=f'->AY f s l=AY f' s l
 | 0,0,s,l,_,_=>rfl
 | 0,f'+1,s,l,h,_=>by
  have:s.1=[]:=DV (by omega);unfold AY;rw [if_pos (.inl (by unfold AF;rw [this];split <;> rfl))]
 | f+1,0,s,l,_,h=>by
  have:s.1=[]:=DV (by omega);unfold AY;rw [if_pos (.inl (by unfold AF;rw [this];split <;> rfl))]
 | f+1,f'+1,s,l,h,d=>by
  unfold AY
  split
  ·rfl
  ·rename_i D
   exact elsF_fuel f f' _ _ (intF_dec h) (intF_dec d)
theorem elsF_step {s:Rd} (h0:AF s≠0) (h1:s.1.head?≠some 93):AY s.1.length s l=AY (AZ s).2.1.length (AZ s).2 (l++[(AZ s).1]):=by
 have d:0<s.1.length:=by
  unfold AF at h0
  split at h0
  ·exact absurd rfl h0
  ·omega
 obtain ⟨f,hf⟩:∃f,s.1.length=f+1:=⟨s.1.length - 1,by omega⟩;rw [hf,AY,if_neg (fun h=>h.elim h0 h1)];exact elsF_fuel _ _ _ _ (intF_dec (by omega)) (DE _)
theorem elsF_stop {s:Rd} (h:AF s=0\/s.1.head?=some 93):AY s.1.length s l=(l,s):=by
 cases hf:s.1.length with
 | zero=>rfl
 | succ f=>unfold AY;rw [if_pos h]
theorem elements_calls {s:Rd} (w:World) (hv:zq w) (h:RdAt w r s) (hl:s.1.length<=1000000000000):Calls Tryz.prog 126 #[.pointer (some ⟨r,0,none⟩),.func (.func 89) #[.pointer (some ⟨r,0,none⟩)] #[]] w fun e w'=>∃v,e=.returned v/\zk (·=r) w w'/\RdAt w' r (AN s).2/\zY w' w.heap.size v (AN s).1:=by
 have HL:=zh (wLeft_calls w h);have HF:=zh (BA w h);obtain ⟨l,bad⟩:=s;have c0:=h.cell (k:=0) rfl;have hf:∀k,w.frozen? ⟨r,k,none⟩=false:=fun k=>h.frozen k
 have HR:=zh h;have HV:=zh hv;dsimp only at HL HR c0 hl;clear h hv
 go_enter Tryz.func126,Tryz.ntmps126
 go_wp2_with fail
 refine HL.out.mono ?_;rintro e w1 ⟨rfl,rfl⟩;by_cases D:AF (l,bad)=0
 ·have hI:Hid (AN (l,bad)=([],([],true))):=by (show _=_);unfold AN;rw [if_pos (.inl D)]
  have d7:(AF (l,bad):Int)=0:=by omega
  have d8:((AF (l,bad):Int)==0)=true:=by simp [D]
  go_wp2_with fail
  refine HF.out.mono ?_;rintro e w2 ⟨rfl,hC,hr⟩;have HC:=zh hC;have a2:=zh hr;clear hC hr
  go_wp2_with fail
  go_ret;refine ⟨_,rfl,HC.out,?_,?_⟩
  ·rw [hI.out];exact a2.out
  ·rw [hI.out];exact World.ownsRow_nil _ _ _ _
 ·have d7:((AF (l,bad):Int)==0)=false:=by simp [D]
  have a3:bad=false:=by cases bad with | false=>rfl | true=>exact absurd rfl D
  subst a3;have a4:0<l.length:=by unfold AF at D;simp at D;exact List.length_pos_iff.2 D
  have b5:(0:Int)<(l.length:Int):=by omega
  obtain ⟨x,l',K,hx⟩:=head_get a4;by_cases J:x=91
  ·have hq:((((ByteArray.mk l.toArray)[0]'a4).toNat:Int) != 91)=false:=by rw [hx,J];rfl
   have d6:ByteArray.extract ⟨l.toArray⟩ 1 l.length=⟨l'.toArray⟩:=by rw [CQ,K];rfl
   have HI:Hid (AN (l,false)=intsE (AY l'.length (l',false) [])):=by
    (show _=_)
    unfold AN;rw [if_neg (by rw [K,J];simp [AF]),K,J];rfl
   have f8:l'.length<=1000000000000:=by rw [K] at hl;simp at hl;omega
   have HS:Hid (zk (·=r) w (w.setCell ⟨r,0,none⟩ (.string ⟨l'.toArray⟩))/\RdAt (w.setCell ⟨r,0,none⟩ (.string ⟨l'.toArray⟩)) r (l',false)):=⟨Ch (X:=(·=r)) (zk.refl _ _) r 0 _ rfl,zg.set (k:=0) HR.out _⟩;clear K hx J D
   go_wp2_with fail
   go_loopw [5] (fun v wr=>∃s' acc,Hid (AY l'.length (l',false) []=AY s'.1.length s' acc)/\Hid (RdAt wr r s')/\Hid (zY wr w.heap.size v acc)/\Hid (zk (·=r) w wr)/\s'.1.length+acc.length<=l'.length/\∃A c,v=.slice A acc.length c) (fun _ wr=>rdSize r wr)
   case atStart=>exact ⟨(l',false),[],rfl,HS.out.2,World.ownsRow_nil _ _ _ _,HS.out.1,by simp,none,0,rfl⟩
   have c8:=HR;clear HS hq d6 d7 HR HL HF c0 hf b5 hl
   case round=>
    obtain ⟨⟨l1,bad⟩,acc,U,d,a0,O,a7,A,c,rfl⟩:=hrel;have b4:=wLeft_calls wr d.out;have c1:=d.out.cell (k:=0) rfl;have f5:∀k,wr.frozen? ⟨r,k,none⟩=false:=fun k=>d.out.frozen k
    have f7:l1.length+acc.length<=l'.length:=a7;dsimp only at b4 c1;have I:=zh b4;clear b4 a7;by_cases D:AF (l1,bad)=0
    ·have G:Hid (AY l'.length (l',false) []=(acc,(l1,bad))):=U.out.trans (elsF_stop (.inl D));have d8:((AF (l1,bad):Int)==0)=true:=by simp [D]
     have f0:¬ ((0:Int)<(AF (l1,bad):Int)):=by omega
     have e9:decide (0<AF (l1,bad))=false:=DI (by omega)
     go_wp2_with fail
     refine I.out.mono ?_;rintro e w2 ⟨rfl,rfl⟩
     go_wp2_with fail
     have b7:=zh (BA wr d.out);refine I.out.mono ?_;rintro e w3 ⟨rfl,rfl⟩;have HN:Hid (AN (l,false)=([],([],true))):=by (show _=_);rw [HI.out,G.out];unfold intsE;rw [if_pos D]
     clear I U G HI a0
     go_wp2_with fail
     refine b7.out.mono ?_;rintro e w4 ⟨rfl,hC,hr⟩;have HC:=zh (O.out.tr hC);have a2:=zh hr;clear hC hr b7
     go_wp2_with fail
     go_ret;refine ⟨_,rfl,HC.out,?_,?_⟩
     ·rw [HN.out];exact a2.out
     ·rw [HN.out];exact World.ownsRow_nil _ _ _ _
    ·have a3:bad=false:=by cases bad with | false=>rfl | true=>exact absurd rfl D
     subst a3;have M:0<l1.length:=by unfold AF at D;simp at D;exact List.length_pos_iff.2 D
     obtain ⟨x,l2,E,hx⟩:=head_get M;have d8:((AF (l1,false):Int)==0)=false:=by simp [D]
     have f0:(0:Int)<(AF (l1,false):Int):=by omega
     have e9:decide (0<AF (l1,false))=true:=DH (by omega);by_cases V:x=93
     ·have hq:((((ByteArray.mk l1.toArray)[0]'M).toNat:Int) != 93)=false:=by rw [hx,V];rfl
      have d6:ByteArray.extract ⟨l1.toArray⟩ 1 l1.length=⟨l2.toArray⟩:=by rw [CQ,E];rfl
      have HN:Hid (AN (l,false)=(acc,(l2,false))):=by
       (show _=_)
       rw [HI.out,U.out,elsF_stop (.inr (by rw [E,V];rfl))];unfold intsE;rw [if_neg D,E];rfl
      have Q:Hid (zk (·=r) w (wr.setCell ⟨r,0,none⟩ (.string ⟨l2.toArray⟩))/\RdAt (wr.setCell ⟨r,0,none⟩ (.string ⟨l2.toArray⟩)) r (l2,false)):=⟨Ch (X:=(·=r)) O.out r 0 _ rfl,zg.set (k:=0) d.out _⟩;have a1:Hid (zY (wr.setCell ⟨r,0,none⟩ (.string ⟨l2.toArray⟩)) w.heap.size (.slice A acc.length c) acc):=own_chgR a0.out d.out (by decide) (Ch (X:=(·=r)) (zk.refl _ _) r 0 _ rfl);clear HI U E hx V D a0 O d
      go_wp2_with fail
      refine I.out.mono ?_;rintro e w2 ⟨rfl,rfl⟩
      go_wp2_with fail
      refine I.out.mono ?_;rintro e w2 ⟨rfl,rfl⟩;clear I
      go_wp2_with fail
      go_ret;refine ⟨_,rfl,Q.out.1,?_,?_⟩
      ·rw [HN.out];exact Q.out.2
      ·rw [HN.out];exact a1.out
     ·have hq:((((ByteArray.mk l1.toArray)[0]'M).toNat:Int) != 93)=true:=by
       rw [hx,bne_iff_ne];intro h;exact V (UInt8.toNat_inj.1 (by simpa using Int.ofNat.inj h))
      have G:Hid (AY l'.length (l',false) []=AY (AZ (l1,false)).2.1.length (AZ (l1,false)).2 (acc++[(AZ (l1,false)).1])):=U.out.trans (elsF_step D (by rw [E];simpa using V));have d4:(AZ (l1,false)).2.1.length+1<=l1.length:=by have:=intF_dec (s:=(l1,false)) (n:=l1.length - 1) (by show l1.length<=_;omega);omega
      have b0:=zh (rInt_calls wr (Dg HV.out O.out (var_ne HV.out c8.out)) d.out (by show l1.length<=_;omega));obtain ⟨y,hy⟩:=EH (AZ (l1,false));rw [<-hy] at G b0 d4;have e7:Hid (rdSize r wr=l1.length):=rdSize_of d.out;have f2:acc.length<=1000000000000:=by omega
      clear HI U E hx V D hy
      go_wp2_with fail
      refine I.out.mono ?_;rintro e w2 ⟨rfl,rfl⟩;clear I
      go_wp2_with fail
      refine b0.out.mono ?_;rintro e w3 ⟨rfl,b2,c9⟩;have a1:Hid (zY w3 w.heap.size (.slice A acc.length c) acc):=own_chgR a0.out d.out (by decide) b2;have Q:=zh (O.out.tr b2);have c6:=zh c9;clear b2 c9 b0 a0 O d;have a9:w.heap.size<=w3.heap.size:=Q.out.size
      go_wp2_with (at_builtin;refine Dj rfl _ _ rfl _ acc y.1 w.heap.size w3.heap.size 1 _ rfl rfl (a1.out.alloc _) ?d1 ?d2 ?d3 ?_)
      (try case d1=>exact zQ _ _ _ (by simp))
      case d2=>(first | (simp;done) | (simp;omega) | omega)
      case d3=>omega
      intro v' w4 b3 d5 e8;have b1:Below w.heap.size w3 w4:=((Below.refl _ w3).alloc a9 _).grown d5.out (by simp;omega) (fun k hk=>(a1.out.lt k hk).1);have e2:Hid (zk (·=r) w w4):=chg_below Q.out b1;have c7:Hid (RdAt w4 r y.2):=zg.below c6.out b1 (za c8.out);obtain ⟨A4,c4,rfl,-⟩:=AW b3;have e5:=zh b3;clear b3 d5 e8 b1 Q c6 a1 a9;go_wp2;go_roundw
      case rel=>exact ⟨y.2,acc++[y.1],G,c7,e5,e2,by simp;omega,A4,c4,by simp⟩
      case measure=>rw [rdSize_of c7.out,e7.out];omega
  ·have hq:((((ByteArray.mk l.toArray)[0]'a4).toNat:Int) != 91)=true:=by
    rw [hx,bne_iff_ne];intro h;exact J (UInt8.toNat_inj.1 (by simpa using Int.ofNat.inj h))
   have hI:Hid (AN (l,false)=([],([],true))):=by (show _=_);unfold AN;rw [if_pos (.inr (by rw [K];simpa using J))]
   clear K hx J D
   go_wp2_with fail
   refine HF.out.mono ?_;rintro e w2 ⟨rfl,hC,hr⟩;have HC:=zh hC;have a2:=zh hr;clear hC hr
   go_wp2_with fail
   go_ret;refine ⟨_,rfl,HC.out,?_,?_⟩
   ·rw [hI.out];exact a2.out
   ·rw [hI.out];exact World.ownsRow_nil _ _ _ _
theorem rInts_calls {s:Rd} (w:World) (I:zq w) (h:RdAt w r s) (K:s.1.length<=1000000000000):Calls Tryz.prog 88 #[.pointer (some ⟨r,0,none⟩)] w fun e w'=>∃v,e=.returned v/\zk (·=r) w w'/\RdAt w' r (AN s).2/\zY w' w.heap.size v (AN s).1:=by
 have D:=zh (elements_calls w I h K);generalize AN s=i at D⊢;clear I h
 go_enter Tryz.func88,Tryz.ntmps88
 go_wp2_with fail
 refine D.out.mono ?_;rintro e w1 ⟨v,rfl,E,G,d⟩;obtain ⟨A,c,rfl,-⟩:=AW d;have J:=zh (And.intro E (And.intro G d));clear E G d
 go_wp2_with fail
 go_ret;exact ⟨_,rfl,J.out⟩
end
section
open Go.RowKit
def dgB (u:Nat):UInt8:=UInt8.ofNat (48+u)
theorem CF {u:Nat} (h:u<10):(dgB u).toNat=48+u:=by
 unfold dgB;rw [UInt8.toNat_ofNat'];omega
theorem dec_small {u:Nat} (h:u<10):Lib.decDigits u=[dgB u]:=by rw [Lib.decDigits,dif_pos h];rfl
theorem dec_big {u:Nat} (h:¬ u<10):Lib.decDigits u=Lib.decDigits (u / 10)++[dgB (u % 10)]:=by
 conv=>lhs;rw [Lib.decDigits,dif_neg h]
 rfl
theorem itoa_pos {n:Int} (h:0<=n):Lib.itoa n=Lib.decDigits n.toNat:=by unfold Lib.itoa;rw [if_neg (by omega)]
theorem itoa_min {n:Int} (h:n<0):Lib.itoa n=45 :: Lib.decDigits n.natAbs:=by unfold Lib.itoa;rw [if_pos h]
def Bw:List UInt8->Int->Option Int
 | [],n=>some n
 | c :: l,n=>if (c.toNat:Int) - 48<0\/9<(c.toNat:Int) - 48\/n< -922337203685477580\/(n=-922337203685477580/\8<(c.toNat:Int) - 48) then none else Bw l (10*n - ((c.toNat:Int) - 48))
theorem refDig_app:∀(a b:List UInt8) (n:Int),Bw (a++b) n=(Bw a n).bind (Bw b)
 | [],b,n=>rfl
 | c :: a,b,n=>by
  simp only [List.cons_append,Bw]
  split
  ·rfl
  ·exact refDig_app a b _
theorem refDig_dec (u:Nat) (h:u<=9223372036854775808):Bw (Lib.decDigits u) 0=some (-(u:Int)):=by
 induction u using Nat.strongRecOn with
 | ind u ih=>
  by_cases d:u<10
  ·rw [dec_small d];have:=CF d;simp only [Bw,this];rw [if_neg (by omega)];congr 1;omega
  ·rw [dec_big d,refDig_app,ih (u / 10) (by omega) (by omega)];have:=CF (Nat.mod_lt u (show 0<10 by decide));simp only [Option.bind_some,Bw,this];rw [if_neg (by omega)];congr 1;omega
theorem De:∀(l:List UInt8) (n v:Int),n<=0->-9223372036854775808<=n->Bw l n=some v->v<=0/\-9223372036854775808<=v
 | [],n,v,h0,h1,h=>by
  injection h with h;omega
 | c :: l,n,v,h0,h1,h=>by
  simp only [Bw] at h
  split at h
  ·cases h
  ·exact De l _ v (by omega) (by omega) h
def refNum (a:List UInt8):Option Int:=
 if a.head?=some 45 then (Bw a.tail 0).bind fun n=>if Lib.itoa n=a then some n else none
 else (Bw a 0).bind fun n=>if n=-9223372036854775808 then none else if Lib.itoa (-n)=a then some (-n) else none
theorem dec_head (u:Nat):∃k,k<10/\∃l,Lib.decDigits u=dgB k :: l:=by
 induction u using Nat.strongRecOn with
 | ind u ih=>
  by_cases d:u<10
  ·exact ⟨u,d,[],dec_small d⟩
  ·obtain ⟨k,D,l,h⟩:=ih (u / 10) (by omega);exact ⟨k,D,l++[dgB (u % 10)],by rw [dec_big d,h];rfl⟩
theorem refNum_of {v:Int} (h:Cp v):refNum (Lib.itoa v)=some v:=by
 obtain ⟨h0,h1⟩:=h;unfold refNum;by_cases E:v<0
 ·have e:=itoa_min E;rw [if_pos (by rw [e];rfl)];have e2:(Lib.itoa v).tail=Lib.decDigits v.natAbs:=by rw [e];rfl
  rw [e2,refDig_dec _ (by omega),Option.bind_some];have e3:-((v.natAbs:Nat):Int)=v:=by omega
  rw [e3,if_pos rfl]
 ·have e:=itoa_pos (n:=v) (by omega);obtain ⟨k,D,l,d⟩:=dec_head v.toNat
  rw [if_neg (by
   rw [e,d];intro hh;injection hh with hh;have:=CF D;rw [hh] at this;simp at this;omega)]
  have e2:Bw (Lib.itoa v) 0=some (-(v.toNat:Int)):=by rw [e];exact refDig_dec _ (by omega)
  rw [e2,Option.bind_some,if_neg (by omega)];have e3:-(-(v.toNat:Int))=v:=by omega
  rw [e3,if_pos rfl]
theorem refNum_some {a:List UInt8} {v:Int} (h:refNum a=some v):Cp v/\Lib.itoa v=a:=by
 unfold refNum at h
 split at h
 ·cases d:Bw a.tail 0 with
  | none=>rw [d] at h;cases h
  | some n=>
   rw [d,Option.bind_some] at h;have:=De _ _ _ (by omega) (by omega) d
   split at h
   ·rename_i he
    injection h with h;subst h;exact ⟨⟨by omega,by omega⟩,he⟩
   ·cases h
 ·cases d:Bw a 0 with
  | none=>rw [d] at h;cases h
  | some n=>
   rw [d,Option.bind_some] at h;have:=De _ _ _ (by omega) (by omega) d
   split at h
   ·cases h
   ·split at h
    ·rename_i D he
     injection h with h;subst h;exact ⟨⟨by omega,by omega⟩,he⟩
    ·cases h
theorem parse_dec (u:Nat) (h:u<=9223372036854775808):Lib.parseUint10 0 (Lib.decDigits u)=.ok u:=by
 have app:∀(a b:List UInt8) (n m:Nat),Lib.parseUint10 n a=.ok m->Lib.parseUint10 n (a++b)=Lib.parseUint10 m b:=by
  intro a
  induction a with
  | nil=>intro b n m h;simp only [Lib.parseUint10] at h;injection h with h;subst h;rfl
  | cons c a ih=>
   intro b n m h;simp only [List.cons_append,Lib.parseUint10] at h⊢
   split at h
   ·rename_i h1
    rw [if_pos h1]
    split at h
    ·cases h
    ·rename_i D
     rw [if_neg D]
     split at h
     ·cases h
     ·rename_i E
      rw [if_neg E];exact ih b _ _ h
   ·cases h
 induction u using Nat.strongRecOn with
 | ind u ih=>
  by_cases d:u<10
  ·rw [dec_small d];have:=CF d;simp only [Lib.parseUint10,this];rw [if_pos (by omega),if_neg (by omega),if_neg (by omega)];congr 1;omega
  ·rw [dec_big d,app _ _ _ _ (ih (u / 10) (by omega) (by omega))];have:=CF (Nat.mod_lt u (show 0<10 by decide));simp only [Lib.parseUint10,this];rw [if_pos (by omega),if_neg (by omega),if_neg (by omega)];congr 1;omega
theorem atoi_itoa {v:Int} (h:Cp v):Lib.atoiAll (Lib.itoa v)=.ok v:=by
 obtain ⟨h0,h1⟩:=h;by_cases J:v<0
 ·have hp:=parse_dec v.natAbs (by omega);have E:Lib.decDigits v.natAbs≠[]:=by obtain ⟨k,-,l,D⟩:=dec_head v.natAbs;rw [D];simp
  have d:Lib.parseMag (Lib.decDigits v.natAbs)=.ok v.natAbs:=by unfold Lib.parseMag;rw [if_neg E];exact hp
  rw [itoa_min J];unfold Lib.atoiAll;have e:(45:UInt8).toNat=45:=rfl;simp only [e];rw [if_pos (Or.inr trivial),d];simp only [true_and,not_true,false_and,if_false,if_true];rw [if_neg (by omega)];congr 1;omega
 ·have hp:=parse_dec v.toNat (by omega);obtain ⟨k,G,l,D⟩:=dec_head v.toNat;have I:=CF G;have d:Lib.parseMag (dgB k :: l)=.ok v.toNat:=by unfold Lib.parseMag;rw [if_neg (by simp),<-D];exact hp
  have n43:(dgB k).toNat≠43:=by omega
  have n45:(dgB k).toNat≠45:=by omega
  rw [itoa_pos (by omega),D];unfold Lib.atoiAll;simp only [n43,n45,or_self,if_false,not_false_eq_true,true_and,false_and];rw [d];simp only;rw [if_neg (by omega)];congr 1;omega
theorem numP_ref (c:UInt8) (l:List UInt8):numP c l=(Cd c l).bind fun p=>(refNum p.1).map fun v=>(v,p.2):=by
 unfold numP
 cases Cd c l with
 | none=>rfl
 | some p=>
  obtain ⟨a,b⟩:=p;simp only [Option.bind_some]
  cases D:refNum a with
  | some v=>
   obtain ⟨h1,d⟩:=refNum_some D;have:=atoi_itoa h1;rw [d] at this;rw [this];simp only;rw [if_pos d];rfl
  | none=>
   rcases E:Lib.atoiAll a with v | _ | _
   ·simp only;rw [if_neg]
    ·rfl
    ·intro he;have:=Lib.atoiAll_bounds E;have:=refNum_of (v:=v) ⟨this.1,this.2⟩;rw [he,D] at this;cases this
   ·rfl
   ·rfl
end
end Go.Proofs.YtfjjdmpndmbfoaaGreatDoor
