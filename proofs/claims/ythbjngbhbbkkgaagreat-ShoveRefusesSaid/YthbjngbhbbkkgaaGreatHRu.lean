import Derived.Test.YthbjngbhbbkkgaaGreatHRt
set_option linter.unusedVariables false
set_option linter.unusedSimpArgs false
set_option maxRecDepth 100000
set_option maxHeartbeats 16000000
namespace Go.Proofs.YthbjngbhbbkkgaaGreat
variable {a:Act} {K:Act->World->Prop} {ops:Array Oper} {x:Bool} {Q:Exit->Act->World->Prop} {l:List Bool} {xs:List Value} {bytes sz:Nat} {ok:Nat->Prop} {o:Obj} {v vF' vT' z:Value} {w5 w9:World}
section
open Go.RowKit
theorem Tryz.infoTask:(Tryz.prog.info? 56).map (fun i=>(i.zero,i.size,i.bytes))=some (some (.agg #[.string ⟨#[]⟩,.slice none 0 0,.slice none 0 0]),3,64):=by kernel_rfl
theorem Tryz.infoBools:(Tryz.prog.info? 29).map (fun i=>(i.zero,i.size,i.bytes))=some (some (.slice none 0 0),1,24):=by kernel_rfl
def zT (B:Nat) (w:World) (g:Nat):Prop:=B<=g/\∃(v:Value) (k:Nat) (l:List Int),zk w g 108 #[v,.int .i64 k]/\zj w (fun b=>b<B) v l/\l.length<=9223372036854775807/\k<=l.length
section
variable {B:Nat} {w w':World} {g:Nat}
theorem zT.keep (h:zT B w g) (E:Below B w w') (D:w'.heap[g]?=w.heap[g]?):zT B w' g:=by
 obtain ⟨h0,v,k,l,h1,h2,h3⟩:=h;exact ⟨h0,v,k,l,D.trans h1,h2.keep fun b D G=>E.block b D,h3⟩
theorem zT.ext (h:zT B w g) (D:zb w w') (E:B<=w.heap.size):zT B w' g:=by
 obtain ⟨h0,v,k,l,h1,h2,h3⟩:=h;exact ⟨h0,v,k,l,(D.block g (zd h1)).trans h1,h2.below D,h3⟩
theorem zT.lt (h:zT B w g):g<w.heap.size:=by
 obtain ⟨h0,v,k,l,h1,h2,h3⟩:=h;exact zd h1
theorem zT.blk (h:zT B w g):∃cs,zk w g 108 cs:=by
 obtain ⟨h0,v,k,l,h1,h2,h3⟩:=h;exact ⟨_,h1⟩
theorem zQ (n:Int) (h:zT B w g) (E:0<n) (G:n<=1000000):
  Calls Tryz.prog 68 #[.pointer (some ⟨g,0,none⟩),.int .i64 n] w fun e w'=>∃x,e=.returned (.int .i64 x)/\0<=x/\x<n/\zT B w' g/\w.grownBy w' (some g):=by
 obtain ⟨h0,v,k,l,h1,h2,h3,M⟩:=h;refine (draw_calls g k n w h1 h2 (by omega) h3 M E G).mono ?_;rintro e w' ⟨rfl,I,J⟩;refine ⟨_,rfl,?_,?_,⟨h0,v,drawK l k,l,I,h2.keep fun b I D=>J.block b D (fun e=>by injection e with e;omega),h3,?_⟩,J⟩
 ·unfold drawV
  split
  ·exact Int.emod_nonneg _ (by omega)
  ·exact Int.le_refl _
 ·unfold drawV
  split
  ·exact Int.emod_lt_of_pos _ E
  ·exact E
 ·unfold drawK
  split <;> omega
end
theorem AK {w w':World} {B:Nat} {e:TypeId} {n:Nat} (h:w.ownsRow B e sz v n xs) (E:∀g,v.ownBlock=some g->w'.heap[g]?=w.heap[g]?):w'.ownsRow B e sz v n xs:=by
 obtain ⟨D,h0 | ⟨g,cap,cur,rfl,h1,h2,h3⟩⟩:=h
 ·exact ⟨D,.inl h0⟩
 ·exact ⟨D,.inr ⟨g,cap,cur,rfl,h1,(E g rfl).trans h2,h3⟩⟩
def OwnB (w:World) (B:Nat) (v:Value) (l:List Bool):Prop:=w.ownsRow B 4 1 v l.length (l.map Value.bool)
theorem OwnB.bools {w:World} {B:Nat} (h:OwnB w B v l):BB w (fun b=>B<=b) v l:=AI.of_own h
def BoolD (w:World) (B S n:Nat) (u:Value):Prop:=∃l,OwnB w B u l/\l.length=n/\∀g,u.ownBlock=some g->g<S
def TaskD (w:World) (B S n:Nat) (u1 u2:Value):Prop:=
 ∃l1 l2,zD w B u1 l1/\zD w B u2 l2/\(l1≠[]/\l2≠[])/\(l1.length<=2/\l2.length<=2)/\(∀x,x∈l1\/x∈l2->0<=x/\x<n)/\(∀g,u1.ownBlock=some g\/u2.ownBlock=some g->g<S)
section
variable {w w':World} {B S S' n:Nat} {u u1 u2:Value}
theorem BoolD.keep (h:BoolD w B S n u) (O:∀g cs,g<S->zk w g 4 cs->w'.heap[g]?=w.heap[g]?) (J:S<=S'):BoolD w' B S' n u:=by
 obtain ⟨l,h1,h2,h3⟩:=h;refine ⟨l,?_,h2,fun g M=>Fh (h3 g M) J⟩;obtain ⟨E,h0 | ⟨g,cap,cur,rfl,G,D,I⟩⟩:=h1
 ·exact ⟨E,.inl h0⟩
 ·exact ⟨E,.inr ⟨g,cap,cur,rfl,G,(O g cur (h3 g rfl) D).trans D,I⟩⟩
theorem BZ {l:List Int} (h:zD w B v l) (J:∀g cs,v.ownBlock=some g->zk w g 3 cs->w'.heap[g]?=w.heap[g]?):zD w' B v l:=by
 obtain ⟨E,h0 | ⟨g,cap,cur,rfl,G,D,I⟩⟩:=h
 ·exact ⟨E,.inl h0⟩
 ·exact ⟨E,.inr ⟨g,cap,cur,rfl,G,(J g cur rfl D).trans D,I⟩⟩
theorem TaskD.keep (h:TaskD w B S n u1 u2) (I:∀g cs,g<S->zk w g 3 cs->w'.heap[g]?=w.heap[g]?) (O:S<=S'):TaskD w' B S' n u1 u2:=by
 obtain ⟨l1,l2,h1,h2,h3,J,M,E⟩:=h;exact ⟨l1,l2,BZ h1 (fun g cs D G=>I g cs (E g (.inl D)) G),BZ h2 (fun g cs D G=>I g cs (E g (.inr D)) G),h3,J,M,fun g D=>Fh (E g D) O⟩
theorem BoolD.store (h:BoolD w B S n u) (p:Addr) (hp:p.spot=none) (b:Bool):BoolD (w.setCell p (.bool b)) B S n u:=by
 obtain ⟨l,h1,h2,h3⟩:=h;obtain ⟨pb,po,ps⟩:=p;obtain rfl:ps=none:=hp;obtain ⟨G,⟨rfl,h0⟩ | ⟨g,cap,cur,rfl,I,J,M,O,T,U⟩⟩:=h1
 ·exact ⟨l,⟨G,.inl ⟨rfl,h0⟩⟩,h2,h3⟩
 ·by_cases V:g=pb
  ·subst V;refine ⟨l.set po b,?_,by simpa using h2,h3⟩;have D:w.ownsRow B 4 1 (.slice (some ⟨g,0,none⟩) l.length cap) l.length (l.map Value.bool):=⟨G,.inr ⟨g,cap,cur,rfl,I,J,M,O,T,U⟩⟩;have E:=(D.stored po (.bool b)).1;unfold OwnB;rw [List.length_set,List.map_set];exact E
  ·exact ⟨l,⟨G,.inr ⟨g,cap,cur,rfl,I,(EP w ⟨pb,po,none⟩ _ g V).trans J,M,O,T,U⟩⟩,h2,h3⟩
end
structure MS (B:Nat) (w:World) (S gm gd:Nat) (W H L:Int) (n tF tT:Nat) (vF vU vT:Value) (fs ts:List Value):Prop where
 hB:B<=w.heap.size
 hS:S<=w.heap.size
 mz:zk w gm 32 #[.int .i64 W,.int .i64 H,.int .i64 L,vF,vU,vT]
 gm0:B<=gm
 dr:zT B w gd
 F:w.ownsRow B 29 1 vF tF fs
 T:w.ownsRow B 56 3 vT tT ts
 fd:∀j,j<tF->∃u,fs[j]?=some u/\BoolD w B S n u
 td:∀j,j<tT->∃s u1 u2,ts[j*3]?=some (.string s)/\ts[j*3+1]?=some u1/\ts[j*3+2]?=some u2/\TaskD w B S n u1 u2
section
variable {B:Nat} {w w':World} {S S' gm gd:Nat} {W H L:Int} {n tF tT:Nat} {vF vU vU' vT:Value} {fs ts:List Value}
theorem MS.keep (h:MS B w S gm gd W H L n tF tT vF vU vT fs ts) (a0:w.heap.size<=w'.heap.size) (hm:w'.heap[gm]?=w.heap[gm]?) (hd:zT B w' gd)
  (hk:∀g ty cs,g<w.heap.size->zk w g ty cs->ty=29\/ty=56->g∉([]:List Nat)->w'.heap[g]?=w.heap[g]?) (G:∀g ty cs,g<S->zk w g ty cs->ty=4\/ty=3->w'.heap[g]?=w.heap[g]?) (hS:S<=S') (M:S'<=w'.heap.size):
  MS B w' S' gm gd W H L n tF tT vF vU vT fs ts:=by
 refine ⟨EI h.hB a0,M,hm.trans h.mz,h.gm0,hd,?_,?_,fun j V=>?_,fun j V=>?_⟩
 ·obtain ⟨I,h0 | ⟨g,cap,cur,rfl,E,D,J⟩⟩:=h.F
  ·exact ⟨I,.inl h0⟩
  ·exact ⟨I,.inr ⟨g,cap,cur,rfl,E,(hk g _ cur (zd D) D (.inl rfl) (by simp)).trans D,J⟩⟩
 ·obtain ⟨I,h0 | ⟨g,cap,cur,rfl,E,D,J⟩⟩:=h.T
  ·exact ⟨I,.inl h0⟩
  ·exact ⟨I,.inr ⟨g,cap,cur,rfl,E,(hk g _ cur (zd D) D (.inr rfl) (by simp)).trans D,J⟩⟩
 ·obtain ⟨u,h1,h2⟩:=h.fd j V;exact ⟨u,h1,h2.keep (fun g cs U O=>G g _ cs U O (.inl rfl)) hS⟩
 ·obtain ⟨s,u1,u2,h1,h2,h3,E⟩:=h.td j V;exact ⟨s,u1,u2,h1,h2,h3,E.keep (fun g cs U O=>G g _ cs U O (.inr rfl)) hS⟩
theorem MS.ext (h:MS B w S gm gd W H L n tF tT vF vU vT fs ts) (D:zb w w'):MS B w' w'.heap.size gm gd W H L n tF tT vF vU vT fs ts:=
 h.keep D.size (D.block gm (zd h.mz)) (h.dr.ext D h.hB) (fun g _ _ E _ _ _=>D.block g E) (fun g _ _ E _ _=>D.block g (Fh E h.hS)) (EI h.hS D.size) (EG _)
theorem MS.extS (h:MS B w S gm gd W H L n tF tT vF vU vT fs ts) (D:zb w w'):MS B w' S gm gd W H L n tF tT vF vU vT fs ts:=
 h.keep D.size (D.block gm (zd h.mz)) (h.dr.ext D h.hB) (fun g _ _ E _ _ _=>D.block g E) (fun g _ _ E _ _=>D.block g (Fh E h.hS)) (EG _) (EI h.hS D.size)
theorem MS.drawn (h:MS B w S gm gd W H L n tF tT vF vU vT fs ts) (O:zT B w' gd) (G:w.grownBy w' (some gd)):MS B w' S gm gd W H L n tF tT vF vU vT fs ts:=by
 obtain ⟨cs,M⟩:=h.dr.blk
 have E:∀g ty cs',zk w g ty cs'->ty≠108->w'.heap[g]?=w.heap[g]?:=fun g ty cs' D J=>G.block g (zd D) (fun e=>by
  injection e with e;exact zk.ne_ D M J e)
 refine h.keep G.size (E gm _ _ h.mz (by decide)) O (fun g ty cs' _ D I _=>E g ty cs' D (by rcases I with rfl | rfl <;> decide)) (fun g ty cs' _ D I=>E g ty cs' D (by rcases I with rfl | rfl <;> decide)) (EG _) (EI h.hS G.size)
theorem MS.store (h:MS B w S gm gd W H L n tF tT vF vU vT fs ts) {g k:Nat} {cs:Array Value} (hb:zk w g 4 cs) (a2:B<=g) (b:Bool):MS B (w.setCell ⟨g,k,none⟩ (.bool b)) S gm gd W H L n tF tT vF vU vT fs ts:=by
 have G:∀g' ty cs',zk w g' ty cs'->ty≠4->(w.setCell ⟨g,k,none⟩ (.bool b)).heap[g']?=w.heap[g']?:=fun g' ty cs' D U=>EP w ⟨g,k,none⟩ _ g' (zk.ne_ D hb U)
 have I:(w.setCell ⟨g,k,none⟩ (.bool b)).heap.size=w.heap.size:=by simp [World.setCell]
 refine ⟨by rw [I];exact h.hB,by rw [I];exact h.hS,(G gm _ _ h.mz (by decide)).trans h.mz,h.gm0,?_,?_,?_,fun j O=>?_,fun j O=>?_⟩
 ·obtain ⟨cs',D⟩:=h.dr.blk;obtain ⟨h0,v,k',l,h1,h2,h3⟩:=h.dr;refine ⟨h0,v,k',l,(G gd _ _ D (by decide)).trans h1,?_,h3⟩
  exact h2.keep fun b' V a4=>EP w ⟨g,k,none⟩ _ b' (by
   show b'≠g;omega)
 ·exact AK h.F fun g' E=>by
   obtain ⟨hl,⟨rfl,_⟩ | ⟨g2,cap,cur,rfl,J,M,h6⟩⟩:=h.F
   ·cases E
   ·have:g2=g':=by simpa [Value.ownBlock] using E
    subst this;exact G g2 _ _ M (by decide)
 ·exact AK h.T fun g' E=>by
   obtain ⟨hl,⟨rfl,_⟩ | ⟨g2,cap,cur,rfl,J,M,h6⟩⟩:=h.T
   ·cases E
   ·have:g2=g':=by simpa [Value.ownBlock] using E
    subst this;exact G g2 _ _ M (by decide)
 ·obtain ⟨u,h1,h2⟩:=h.fd j O;exact ⟨u,h1,h2.store _ rfl b⟩
 ·obtain ⟨s,u1,u2,h1,h2,h3,J⟩:=h.td j O;exact ⟨s,u1,u2,h1,h2,h3,J.keep (fun g' cs' _ D=>G g' _ cs' D (by decide)) (EG _)⟩
theorem MS.addT (h:MS B w S gm gd W H L n tF tT vF vU vT fs ts) {s:ByteArray} {u1 u2:Value} (hd:TaskD w B S n u1 u2) (ho:w5.ownsRow B 56 3 vT' (tT+1) (ts++[.string s,u1,u2])) (hg:(w.alloc o).grownBy w5 vT.ownBlock):
  MS B (w5.setCell ⟨gm,5,none⟩ vT') S gm gd W H L n tF (tT+1) vF vU vT' fs (ts++[.string s,u1,u2])/\
   (∀g ty cs,zk w g ty cs->ty≠56->ty≠32->(w5.setCell ⟨gm,5,none⟩ vT').heap[g]?=w.heap[g]?)/\Below B w (w5.setCell ⟨gm,5,none⟩ vT'):=by
 have h1:∀g ty cs,zk w g ty cs->ty≠56->w5.heap[g]?=w.heap[g]?:=fun g ty cs E I=>(hg.block g (by have:=zd E;simp;omega) (fun e=>zm h.T E (Ne.symm I) e.symm)).trans (EY _ _ _ (zd E))
 have O:zk w5 gm 32 #[.int .i64 W,.int .i64 H,.int .i64 L,vF,vU,vT]:=(h1 gm _ _ h.mz (by decide)).trans h.mz;have h2:∀g ty cs,zk w g ty cs->ty≠56->ty≠32->(w5.setCell ⟨gm,5,none⟩ vT').heap[g]?=w.heap[g]?:=fun g ty cs E I V=>(EP w5 ⟨gm,5,none⟩ _ g (zk.ne_ E h.mz V)).trans (h1 g ty cs E I)
 have U:w.heap.size<=(w5.setCell ⟨gm,5,none⟩ vT').heap.size:=by have:=hg.size;simp [World.setCell] at this⊢;omega
 have G:Below B w (w5.setCell ⟨gm,5,none⟩ vT'):=by
  have h3:Below B w (w.alloc o):=(Below.refl B w).alloc h.hB _;have J:Below B w w5:=h3.grown hg (by simp;have:=h.hB;omega) (fun k hk=>(h.T.lt k hk).1);exact J.setCell (p:=⟨gm,5,none⟩) h.gm0 _
 refine ⟨⟨EI h.hB U,EI h.hS U,O.set (k:=5) vT',h.gm0,?_,?_,?_,fun j hj=>?_,fun j hj=>?_⟩,h2,G⟩
 ·obtain ⟨cs,E⟩:=h.dr.blk;exact h.dr.keep G (h2 gd _ _ E (by decide) (by decide))
 ·exact AK h.F fun g D=>by
   obtain ⟨hl,⟨e,_⟩ | ⟨g2,cap,cur,e,J,h5,h6⟩⟩:=h.F
   ·rw [e] at D;cases D
   ·rw [e] at D;have:g2=g:=by simpa [Value.ownBlock] using D
    subst this;exact h2 g2 _ _ h5 (by decide) (by decide)
 ·exact AK ho fun g D=>EP w5 ⟨gm,5,none⟩ _ g (fun e=>by
   have e':g=gm:=e;subst e';exact zm ho O (by decide) D)
 ·obtain ⟨u,h3,J⟩:=h.fd j hj;exact ⟨u,h3,J.keep (fun g cs _ E=>h2 g _ cs E (by decide) (by decide)) (EG _)⟩
 ·have a5:ts.length=tT*3:=h.T.1;have M:∀{a b:Value},TaskD w B S n a b->TaskD (w5.setCell ⟨gm,5,none⟩ vT') B S n a b:=fun hh=>hh.keep (fun g cs _ E=>h2 g _ cs E (by decide) (by decide)) (EG _)
  rcases Fc j tT with hj2 | hj2
  ·obtain ⟨s',a,b,h3,J,h5,h6⟩:=h.td j hj2;exact ⟨s',a,b,by rw [EL (by omega)];exact h3,by rw [EL (by omega)];exact J,by rw [EL (by omega)];exact h5,M h6⟩
  ·have a2:j=tT:=by omega
   subst a2;refine ⟨s,u1,u2,?_,?_,?_,M hd⟩
   ·rw [EM (by omega),show j*3 - ts.length=0 from by omega];rfl
   ·rw [EM (by omega),show j*3+1 - ts.length=1 from by omega];rfl
   ·rw [EM (by omega),show j*3+2 - ts.length=2 from by omega];rfl
theorem MS.addF (h:MS B w S gm gd W H L n tF tT vF vU vT fs ts) {u:Value} (hd:BoolD w B S n u) (ho:w5.ownsRow B 29 1 vF' (tF+1) (fs++[u])) (hg:(w.alloc o).grownBy w5 vF.ownBlock):
  MS B (w5.setCell ⟨gm,3,none⟩ vF') S gm gd W H L n (tF+1) tT vF' vU vT (fs++[u]) ts/\Below B w (w5.setCell ⟨gm,3,none⟩ vF'):=by
 have h1:∀g ty cs,zk w g ty cs->ty≠29->w5.heap[g]?=w.heap[g]?:=fun g ty cs E I=>(hg.block g (by have:=zd E;simp;omega) (fun e=>zm h.F E (Ne.symm I) e.symm)).trans (EY _ _ _ (zd E))
 have O:zk w5 gm 32 #[.int .i64 W,.int .i64 H,.int .i64 L,vF,vU,vT]:=(h1 gm _ _ h.mz (by decide)).trans h.mz;have h2:∀g ty cs,zk w g ty cs->ty≠29->ty≠32->(w5.setCell ⟨gm,3,none⟩ vF').heap[g]?=w.heap[g]?:=fun g ty cs E I V=>(EP w5 ⟨gm,3,none⟩ _ g (zk.ne_ E h.mz V)).trans (h1 g ty cs E I)
 have U:w.heap.size<=(w5.setCell ⟨gm,3,none⟩ vF').heap.size:=by have:=hg.size;simp [World.setCell] at this⊢;omega
 have G:Below B w (w5.setCell ⟨gm,3,none⟩ vF'):=by
  have h3:Below B w (w.alloc o):=(Below.refl B w).alloc h.hB _;have J:Below B w w5:=h3.grown hg (by simp;have:=h.hB;omega) (fun k hk=>(h.F.lt k hk).1);exact J.setCell (p:=⟨gm,3,none⟩) h.gm0 _
 refine ⟨⟨EI h.hB U,EI h.hS U,O.set (k:=3) vF',h.gm0,?_,?_,?_,fun j hj=>?_,fun j hj=>?_⟩,G⟩
 ·obtain ⟨cs,E⟩:=h.dr.blk;exact h.dr.keep G (h2 gd _ _ E (by decide) (by decide))
 ·exact AK ho fun g D=>EP w5 ⟨gm,3,none⟩ _ g (fun e=>by
   have e':g=gm:=e;subst e';exact zm ho O (by decide) D)
 ·exact AK h.T fun g D=>by
   obtain ⟨hl,⟨e,_⟩ | ⟨g2,cap,cur,e,J,h5,h6⟩⟩:=h.T
   ·rw [e] at D;cases D
   ·rw [e] at D;have:g2=g:=by simpa [Value.ownBlock] using D
    subst this;exact h2 g2 _ _ h5 (by decide) (by decide)
 ·have a5:fs.length=tF:=by have:=h.F.1;omega
  have M:∀{a:Value},BoolD w B S n a->BoolD (w5.setCell ⟨gm,3,none⟩ vF') B S n a:=fun hh=>hh.keep (fun g cs _ E=>h2 g _ cs E (by decide) (by decide)) (EG _)
  rcases Fc j tF with hj2 | hj2
  ·obtain ⟨a,h3,J⟩:=h.fd j hj2;exact ⟨a,by rw [EL (by omega)];exact h3,M J⟩
  ·have a2:j=tF:=by omega
   subst a2;exact ⟨u,by rw [EM (by omega),show j - fs.length=0 from by omega];rfl,M hd⟩
 ·obtain ⟨s,u1,u2,h3,J,h5,h6⟩:=h.td j hj;exact ⟨s,u1,u2,h3,J,h5,h6.keep (fun g cs _ E=>h2 g _ cs E (by decide) (by decide)) (EG _)⟩
theorem MS.addU (h:MS B w S gm gd W H L n tF tT vF vU vT fs ts) {us:List Bool} (a8:B<=S) (hu:OwnB w S vU us) (ho:w5.ownsRow S 4 1 vU' (us.length+1) (us.map Value.bool++[.bool x])) (hg:(w.alloc o).grownBy w5 vU.ownBlock):
  MS B (w5.setCell ⟨gm,4,none⟩ vU') S gm gd W H L n tF tT vF vU' vT fs ts/\OwnB (w5.setCell ⟨gm,4,none⟩ vU') S vU' (us++[x])/\Below B w (w5.setCell ⟨gm,4,none⟩ vU'):=by
 have h1:∀g ty cs,zk w g ty cs->ty≠4\/g<S->w5.heap[g]?=w.heap[g]?:=fun g ty cs E hty=>(hg.block g (by have:=zd E;simp;omega) (fun e=>by
  rcases hty with hty | hty
  ·exact zm hu E (Ne.symm hty) e.symm
  ·have:=(World.ownsRow.lt hu g e.symm).1;omega)).trans (EY _ _ _ (zd E))
 have M:zk w5 gm 32 #[.int .i64 W,.int .i64 H,.int .i64 L,vF,vU,vT]:=(h1 gm _ _ h.mz (.inl (by decide))).trans h.mz;have h2:∀g ty cs,zk w g ty cs->ty≠4\/g<S->ty≠32->(w5.setCell ⟨gm,4,none⟩ vU').heap[g]?=w.heap[g]?:=fun g ty cs E hty U=>(EP w5 ⟨gm,4,none⟩ _ g (zk.ne_ E h.mz U)).trans (h1 g ty cs E hty)
 have O:w.heap.size<=(w5.setCell ⟨gm,4,none⟩ vU').heap.size:=by have:=hg.size;simp [World.setCell] at this⊢;omega
 have G:Below B w (w5.setCell ⟨gm,4,none⟩ vU'):=by
  have h3:Below B w (w.alloc o):=(Below.refl B w).alloc h.hB _;have J:Below B w w5:=h3.grown hg (by simp;have:=h.hB;omega) (fun k hk=>by have:=(World.ownsRow.lt hu k hk).1;omega);exact J.setCell (p:=⟨gm,4,none⟩) h.gm0 _
 have I:∀{e:TypeId} {sz k:Nat} {v:Value} {xs:List Value},w.ownsRow B e sz v k xs->e≠4->e≠32->(w5.setCell ⟨gm,4,none⟩ vU').ownsRow B e sz v k xs:=fun hr he a0=>AK hr fun g D=>by
  obtain ⟨hl,⟨e,_⟩ | ⟨g2,cap,cur,e,J,V,h6⟩⟩:=hr
  ·rw [e] at D;cases D
  ·rw [e] at D;have:g2=g:=by simpa [Value.ownBlock] using D
   subst this;exact h2 g2 _ _ V (.inl he) a0
 refine ⟨⟨EI h.hB O,EI h.hS O,M.set (k:=4) vU',h.gm0,?_,I h.F (by decide) (by decide),I h.T (by decide) (by decide),fun j hj=>?_,fun j hj=>?_⟩,?_,G⟩
 ·obtain ⟨cs,E⟩:=h.dr.blk;exact h.dr.keep G (h2 gd _ _ E (.inl (by decide)) (by decide))
 ·obtain ⟨u,h3,J⟩:=h.fd j hj;exact ⟨u,h3,J.keep (fun g cs a2 E=>h2 g _ cs E (.inr a2) (by decide)) (EG _)⟩
 ·obtain ⟨s,u1,u2,h3,J,V,h6⟩:=h.td j hj;exact ⟨s,u1,u2,h3,J,V,h6.keep (fun g cs _ E=>h2 g _ cs E (.inl (by decide)) (by decide)) (EG _)⟩
 ·unfold OwnB;rw [EO,Ff,Fz]
  exact AK ho fun g D=>EP w5 ⟨gm,4,none⟩ _ g (fun e=>by
   have e':g=gm:=e;subst e';exact zm ho M (by decide) D)
end
structure R1 (B:Nat) (w:World) (S ge gt n:Nat) (s:ByteArray) (u1 u2:Value) (l1 l2:List Int):Prop where
 hB:B<=S
 hS:S<=w.heap.size
 dr:zT B w ge
 hge:S<=ge
 tk:zk w gt 56 #[.string s,u1,u2]
 hgt:S<=gt
 o1:zD w S u1 l1
 o2:zD w S u2 l2
 ne:u1.ownBlock=none\/u1.ownBlock≠u2.ownBlock
 e1:l1≠[]
 e2:l2≠[]
 rg:∀x,x∈l1\/x∈l2->0<=x/\x<(n:Int)
section
variable {B:Nat} {w w':World} {S ge gt n:Nat} {s:ByteArray} {u1 u2:Value} {l1 l2:List Int}
theorem R1.keep (h:R1 B w S ge gt n s u1 u2 l1 l2) (G:Below B w w') (E:∀g ty cs,zk w g ty cs->ty=108\/ty=56\/ty=3->w'.heap[g]?=w.heap[g]?):R1 B w' S ge gt n s u1 u2 l1 l2:=by
 obtain ⟨cs,D⟩:=h.dr.blk;exact ⟨h.hB,EI h.hS G.size,h.dr.keep G (E ge _ _ D (.inl rfl)),h.hge,(E gt _ _ h.tk (.inr (.inl rfl))).trans h.tk,h.hgt,BZ h.o1 (fun g cs _ D=>E g _ cs D (.inr (.inr rfl))),BZ h.o2 (fun g cs _ D=>E g _ cs D (.inr (.inr rfl))),h.ne,h.e1,h.e2,h.rg⟩
theorem R1.ext (h:R1 B w S ge gt n s u1 u2 l1 l2) (D:zb w w'):R1 B w' S ge gt n s u1 u2 l1 l2:=
 h.keep (D.mono (EI h.hB h.hS)) (fun g _ _ E _=>D.block g (zd E))
theorem R1.drawn (h:R1 B w S ge gt n s u1 u2 l1 l2) (M:zT B w' ge) (J:w.grownBy w' (some ge)):R1 B w' S ge gt n s u1 u2 l1 l2:=by
 obtain ⟨cs,E⟩:=h.dr.blk
 have D:∀g ty cs',zk w g ty cs'->ty≠108->w'.heap[g]?=w.heap[g]?:=fun g ty cs' G I=>J.block g (zd G) (fun e=>by
  injection e with e;exact zk.ne_ G E I e)
 exact ⟨h.hB,EI h.hS J.size,M,h.hge,(D gt _ _ h.tk (by decide)).trans h.tk,h.hgt,BZ h.o1 (fun g cs _ E=>D g _ cs E (by decide)),BZ h.o2 (fun g cs _ E=>D g _ cs E (by decide)),h.ne,h.e1,h.e2,h.rg⟩
theorem R1.drawnExt {wR:World} (h:R1 B w wR.heap.size ge gt n s u1 u2 l1 l2) (D:zb wR w) (G:w.grownBy w' (some ge)):zb wR w':=
 Below.grown D G D.size (fun k E=>by injection E with E;have:=h.hge;omega)
theorem R1.add1 (h:R1 B w S ge gt n s u1 u2 l1 l2) {u1':Value} {x:Int} (hx:0<=x/\x<(n:Int)) (T:w5.ownsRow S 3 1 u1' (l1.length+1) (l1.map (Value.int .i64)++[.int .i64 x])) (O:(w.alloc o).grownBy w5 u1.ownBlock)
  (hv:u1'.ownBlock=u1.ownBlock\/u1'.ownBlock=some (w.heap.size+1)):R1 B (w5.setCell ⟨gt,1,none⟩ u1') S ge gt n s u1' u2 (l1++[x]) l2/\Below S w (w5.setCell ⟨gt,1,none⟩ u1'):=by
 obtain ⟨cs,D⟩:=h.dr.blk;have h1:∀g ty cs,zk w g ty cs->u1.ownBlock≠some g->w5.heap[g]?=w.heap[g]?:=fun g ty cs D I=>(O.block g (by have:=zd D;simp;omega) (fun e=>I e.symm)).trans (EY _ _ _ (zd D))
 have J:zk w5 gt 56 #[.string s,u1,u2]:=(h1 gt _ _ h.tk (zm h.o1 h.tk (by decide))).trans h.tk;have h2:∀g ty cs,zk w g ty cs->u1.ownBlock≠some g->ty≠56->(w5.setCell ⟨gt,1,none⟩ u1').heap[g]?=w.heap[g]?:=fun g ty cs D I V=>(EP w5 ⟨gt,1,none⟩ _ g (zk.ne_ D h.tk V)).trans (h1 g ty cs D I)
 have U:w.heap.size<=(w5.setCell ⟨gt,1,none⟩ u1').heap.size:=by have:=O.size;simp [World.setCell] at this⊢;omega
 have E:Below S w (w5.setCell ⟨gt,1,none⟩ u1'):=by
  have h3:Below S w (w.alloc o):=(Below.refl S w).alloc h.hS _;have h4:Below S w w5:=h3.grown O (by simp;have:=h.hS;omega) (fun k hk=>(World.ownsRow.lt h.o1 k hk).1);exact h4.setCell (p:=⟨gt,1,none⟩) h.hgt _
 refine ⟨⟨h.hB,EI h.hS U,h.dr.keep (E.mono h.hB) (h2 ge _ _ D (zm h.o1 D (by decide)) (by decide)),h.hge,J.set (k:=1) u1',h.hgt,?_,?_,?_,by simp,h.e2,?_⟩,E⟩
 ·show World.ownsRow _ _ _ _ _ (l1++[x]).length _;rw [EO,Ff,Fz]
  exact AK T fun g G=>EP w5 ⟨gt,1,none⟩ _ g (fun e=>by
   have e':g=gt:=e;subst e';exact zm T J (by decide) G)
 ·exact BZ h.o2 (fun g cs G M=>h2 g _ cs M (fun e=>by
   rcases h.ne with hn | hn
   ·rw [hn] at e;cases e
   ·exact hn (e.trans G.symm)) (by decide))
 ·right
  rcases hv with hv | hv
  ·rw [hv];rcases h.ne with hn | hn
   ·rw [hn] at hv;obtain ⟨g,c,e,_,_⟩:=World.ownsRow.form T (by omega);rw [e] at hv;cases hv
   ·exact hn
  ·rw [hv];intro e;have:=(World.ownsRow.lt h.o2 _ e.symm).2;omega
 ·intro y hy;rcases hy with hy | hy
  ·rcases Fx.1 hy with hy | hy
   ·exact h.rg y (.inl hy)
   ·rw [Fo] at hy;rw [hy];exact hx
  ·exact h.rg y (.inr hy)
theorem R1.add2 (h:R1 B w S ge gt n s u1 u2 l1 l2) {u2':Value} {x:Int} (hx:0<=x/\x<(n:Int)) (V:w5.ownsRow S 3 1 u2' (l2.length+1) (l2.map (Value.int .i64)++[.int .i64 x])) (O:(w.alloc o).grownBy w5 u2.ownBlock)
  (hv:u2'.ownBlock=u2.ownBlock\/u2'.ownBlock=some (w.heap.size+1)):R1 B (w5.setCell ⟨gt,2,none⟩ u2') S ge gt n s u1 u2' l1 (l2++[x])/\Below S w (w5.setCell ⟨gt,2,none⟩ u2'):=by
 obtain ⟨cs,E⟩:=h.dr.blk;have h1:∀g ty cs,zk w g ty cs->u2.ownBlock≠some g->w5.heap[g]?=w.heap[g]?:=fun g ty cs E I=>(O.block g (by have:=zd E;simp;omega) (fun e=>I e.symm)).trans (EY _ _ _ (zd E))
 have J:zk w5 gt 56 #[.string s,u1,u2]:=(h1 gt _ _ h.tk (zm h.o2 h.tk (by decide))).trans h.tk;have h2:∀g ty cs,zk w g ty cs->u2.ownBlock≠some g->ty≠56->(w5.setCell ⟨gt,2,none⟩ u2').heap[g]?=w.heap[g]?:=fun g ty cs E I U=>(EP w5 ⟨gt,2,none⟩ _ g (zk.ne_ E h.tk U)).trans (h1 g ty cs E I)
 have T:w.heap.size<=(w5.setCell ⟨gt,2,none⟩ u2').heap.size:=by have:=O.size;simp [World.setCell] at this⊢;omega
 have G:Below S w (w5.setCell ⟨gt,2,none⟩ u2'):=by
  have h3:Below S w (w.alloc o):=(Below.refl S w).alloc h.hS _;have h4:Below S w w5:=h3.grown O (by simp;have:=h.hS;omega) (fun k hk=>(World.ownsRow.lt h.o2 k hk).1);exact h4.setCell (p:=⟨gt,2,none⟩) h.hgt _
 refine ⟨⟨h.hB,EI h.hS T,h.dr.keep (G.mono h.hB) (h2 ge _ _ E (zm h.o2 E (by decide)) (by decide)),h.hge,J.set (k:=2) u2',h.hgt,?_,?_,?_,h.e1,by simp,?_⟩,G⟩
 ·exact BZ h.o1 (fun g cs D M=>h2 g _ cs M (fun e=>by
   rcases h.ne with hn | hn
   ·rw [hn] at D;cases D
   ·exact hn (D.trans e.symm)) (by decide))
 ·show World.ownsRow _ _ _ _ _ (l2++[x]).length _;rw [EO,Ff,Fz]
  exact AK V fun g D=>EP w5 ⟨gt,2,none⟩ _ g (fun e=>by
   have e':g=gt:=e;subst e';exact zm V J (by decide) D)
 ·rcases hv with hv | hv
  ·rw [hv];exact h.ne
  ·by_cases h0:u1.ownBlock=none
   ·exact .inl h0
   ·right
    rw [hv];intro e;have:=(World.ownsRow.lt h.o1 _ e).2;omega
 ·intro y hy;rcases hy with hy | hy
  ·exact h.rg y (.inl hy)
  ·rcases Fx.1 hy with hy | hy
   ·exact h.rg y (.inr hy)
   ·rw [Fo] at hy;rw [hy];exact hx
theorem R1.taskD (h:R1 B w S ge gt n s u1 u2 l1 l2) (k1:l1.length<=2) (k2:l2.length<=2):TaskD w B w.heap.size n u1 u2:=
 ⟨l1,l2,World.ownsRow.mono h.o1 h.hB,World.ownsRow.mono h.o2 h.hB,⟨h.e1,h.e2⟩,⟨k1,k2⟩,h.rg,fun g hg=>by
  rcases hg with hg | hg
  ·exact (World.ownsRow.lt h.o1 g hg).2
  ·exact (World.ownsRow.lt h.o2 g hg).2⟩
end
theorem OwnB.app {S:Nat} {v':Value} (D:w5.ownsRow S 4 1 v' (l.length+1) (l.map Value.bool++[.bool x])):OwnB w5 S v' (l++[x]):=by
 unfold OwnB;rw [EO,Ff,Fz];exact D
theorem R1.grownB {B:Nat} {w:World} {S S2 ge gt n:Nat} {s:ByteArray} {u1 u2:Value} {l1 l2:List Int} (h:R1 B w S ge gt n s u1 u2 l1 l2) (J:OwnB w S2 v l) (M:S<=S2) (I:(w.alloc o).grownBy w5 v.ownBlock):R1 B w5 S ge gt n s u1 u2 l1 l2/\Below S w w5:=by
 have D:Below S w w5:=by
  have h3:Below S w (w.alloc o):=(Below.refl S w).alloc h.hS _;exact h3.grown I (by simp;have:=h.hS;omega) (fun k O=>EI M (World.ownsRow.lt J k O).1)
 refine ⟨h.keep (D.mono h.hB) fun g ty cs E G=>?_,D⟩;exact (I.block g (by have:=zd E;simp;omega) (fun e=>zm J E (by rcases G with rfl | rfl | rfl <;> decide) e.symm)).trans (EY _ _ _ (zd E))
theorem cells3n (w:World) (a b c:Value) (t:TypeId):∀j u,[a,b,c][j]?=some u->(w.alloc (.cells #[a,b,c] t)).cell? ((⟨w.heap.size,0,none⟩:Addr).add j)=some u:=by
 intro j u D;have E:zk (w.alloc (.cells #[a,b,c] t)) w.heap.size t #[a,b,c]:=zk.new _ _ _ rfl
 match j,D with
 | 0,D=>exact E.cell (k:=0) D
 | 1,D=>exact E.cell (k:=1) D
 | 2,D=>exact E.cell (k:=2) D
section
variable {B:Nat} {w:World} {S S2 gm gd ge gt:Nat} {W H L:Int} {n t:Nat} {vF vU vT vf:Value} {fs ts:List Value} {s:ByteArray} {u1 u2:Value} {l1 l2:List Int} {lf:List Bool}
theorem MS.end1 (h:MS B w w.heap.size gm gd W H L n t t vF vU vT fs ts) (M:R1 B w S ge gt n s u1 u2 l1 l2) (k1:l1.length<=2) (k2:l2.length<=2) (E:OwnB w S2 vf lf) (J:w9.ownsRow B 56 3 vT' (t+1) (ts++[.string s,u1,u2])) (I:(w.alloc o).grownBy w9 vT.ownBlock):
  MS B (w9.setCell ⟨gm,5,none⟩ vT') w.heap.size gm gd W H L n t (t+1) vF vU vT' fs (ts++[.string s,u1,u2])/\OwnB (w9.setCell ⟨gm,5,none⟩ vT') S2 vf lf/\Below B w (w9.setCell ⟨gm,5,none⟩ vT'):=by
 obtain ⟨h1,h2,h3⟩:=h.addT (M.taskD k1 k2) J I;refine ⟨h1,AK E fun g D=>?_,h3⟩;obtain ⟨U,⟨e,_⟩ | ⟨g2,cap,cur,e,O,G,T⟩⟩:=E
 ·rw [e] at D;cases D
 ·rw [e] at D;have:g2=g:=by simpa [Value.ownBlock] using D
  subst this;exact h2 g2 _ _ G (by decide) (by decide)
theorem MS.end2 (h:MS B w S gm gd W H L n t (t+1) vF vU vT fs ts) (I:OwnB w S2 vf lf) (D:lf.length=n) (E:B<=S2) (G:∀g,vf.ownBlock=some g->g<S) (M:w9.ownsRow B 29 1 vF' (t+1) (fs++[vf])) (J:(w.alloc o).grownBy w9 vF.ownBlock):
  MS B (w9.setCell ⟨gm,3,none⟩ vF') (w9.setCell ⟨gm,3,none⟩ vF').heap.size gm gd W H L n (t+1) (t+1) vF' vU vT (fs++[vf]) ts/\Below B w (w9.setCell ⟨gm,3,none⟩ vF'):=by
 obtain ⟨h1,h2⟩:=h.addF ⟨lf,World.ownsRow.mono I E,D,G⟩ M J;exact ⟨h1.ext (zb.refl _),h2⟩
theorem MS.c5 (h:MS B w S gm gd W H L n t (t+1) vF vU vT fs ts):w.cell? ⟨gm,3,none⟩=some vF:=h.mz.cell (k:=3) rfl
end
theorem hasB {w:World} {B:Nat} {u:Value} {l:List Int} (k:Int) (o:zD w B u l) (E:l.length<=1000):∃b,∀W,zb w W->Calls Tryz.prog 12 #[u,.int .i64 k] W fun e w'=>e=.returned (.bool b)/\W=w':=
 ⟨_,fun W D=>zU k W (zj.below (AI.of_own o) D) (by omega)⟩
theorem own_blkB {w:World} {B n g c:Nat} {e:TypeId} (h:w.ownsRow B e sz (.slice (some ⟨g,0,none⟩) n c) n xs):∃cs,zk w g e cs:=by
 obtain ⟨_,⟨e,_⟩ | ⟨g2,cap,cur,e,_,D,_⟩⟩:=h
 ·cases e
 ·injection e with e _ _;injection e with e;injection e with e;subst e;exact ⟨cur,D⟩
theorem MS.stored {B:Nat} {w1 w:World} {S gm gd g k:Nat} {W H L:Int} {n tF tT:Nat} {vF vU vT:Value} {fs ts:List Value} (h:MS B w S gm gd W H L n tF tT vF vU vT fs ts) (G:zb w1 w) (J:B=w1.heap.size) (D:∃cs,zk w g 4 cs) (I:B<=g) (b:Bool):
  MS B (w.drew.setCell ⟨g,k,none⟩ (.bool b)) (w.drew.setCell ⟨g,k,none⟩ (.bool b)).heap.size gm gd W H L n tF tT vF vU vT fs ts/\zb w1 (w.drew.setCell ⟨g,k,none⟩ (.bool b)):=by
 obtain ⟨cs,D⟩:=D;have h1:=h.extS ((zb.refl w).drew);have E:zk w.drew g 4 cs:=D;have h2:=h1.store (k:=k) E I b;exact ⟨h2.ext (zb.refl _),G.drew.setCell (p:=⟨g,k,none⟩) (by show w1.heap.size<=g;omega) _⟩
structure ElemI (t e:TypeId) (z:Value) (sz bytes:Nat):Prop where
 ht:Tryz.prog.underlying t=some (.slice e)
 hi:(Tryz.prog.info? e).map (fun i=>(i.zero,i.size,i.bytes))=some (some z,sz,bytes)
 hz:z.cells.size=sz
 h0:0<sz
theorem Ee (w:World) (base:Nat) (t ty e:TypeId) (z:Value) (sz bytes:Nat) (I:ElemI t e z sz bytes)
  (v:Value) (n:Nat) (xs:List Value) (J:w.ownsRow base e sz v n xs) (u:Value) (m:Nat) (news:List Value) (hu:AI w ok sz u m news) (h1:∀u∈news,u.oneCell'=true)
  (T:n+m<=maxLen) (E:(n+m)*bytes<=140737488355328) (M:base<=w.heap.size):
  ∃v' w',(Builtin.append_ #[t,t] ty #[v,u]).run Tryz.prog w=.ok v' w'/\w'.ownsRow base e sz v' (n+m) (xs++news)/\w.grownBy w' v.ownBlock/\(v'.ownBlock=v.ownBlock\/v'.ownBlock=some w.heap.size):=by
 obtain ⟨i,hi,hz,D,U⟩:=info_parts I.hi;have V:=I.ht;have a0:=I.hz;have O:=I.h0;obtain ⟨A,c,rfl,hc,hl,G⟩:=hu;rcases A with _ | a
 ·have hm:m=0:=by
   rcases Fs m with h | h
   ·exact h
   ·obtain ⟨b,off,e,_⟩:=G h;cases e
  subst hm;have hn:news=[]:=EX (by simpa using hl);subst hn;refine ⟨v,w,?_,by simpa using J,⟨rfl,rfl,rfl,EG _,fun _ _ _=>rfl⟩,.inl rfl⟩;rcases J.2 with ⟨rfl,rfl⟩ | ⟨g,cap,cur,rfl,a9,hg,b3,b0,b1,a6⟩
  ·simp [Builtin.append_,run_underlying V,sizeOf,typeInfo,hi,D,Builtin.lenOf,Builtin.firstCells,loadCells,loadCellsFrom]
  ·have h:=run_append_room_src (P:=Tryz.prog) w t t ty e i V hi g 0 n cap (.slice none 0 c) 0 [] (by rw [D];exact Src.ofNil w V c) (by omega) (by simp) (by simp);rw [setCells_nil] at h;simpa using h
 ·rcases Fs m with h0 | hmp
  ·subst h0;have hn:news=[]:=EX (by simpa using hl);subst hn;obtain ⟨v',w',h1,h2,h3,h4,h5⟩:=run_append_own_at (P:=Tryz.prog) w base t ty e i z sz bytes V hi hz D U a0 O v n xs J a 0 c [] (by simp) (by simp) (by simp) T E M;exact ⟨v',w',h1,h2,h3,h5⟩
  ·obtain ⟨b,off,he,_,a3⟩:=G hmp;injection he with he;subst he;obtain ⟨v',w',h1,h2,h3,h4,h5⟩:=run_append_own_at (P:=Tryz.prog) w base t ty e i z sz bytes V hi hz D U a0 O v n xs J ⟨b,off,none⟩ m c news hl (fun j u hj=>by rw [Addr.add_lit];exact a3 j u hj) h1 T E M;exact ⟨v',w',h1,h2,h3,h5⟩
theorem CO {o:Oper} (W:World) (s x:Operand) {t e:TypeId} (I:ElemI t e z sz bytes)
  (O:o.op=.call { callee:=.builtin .append,args:=#[s,x],argTypes:=#[t,t] }) (base n m:Nat) (l l2:List Value) (v u:Value) (U:a.eval s=v) (hx:a.eval x=u)
  (E:W.ownsRow base e sz v n l) (V:AI W ok sz u m l2) (h1:∀u∈l2,u.oneCell'=true) (D:base<=W.heap.size) (G:n+m<=maxLen) (M:(n+m)*bytes<=140737488355328)
  (h:∀v' w',w'.ownsRow base e sz v' (n+m) (l++l2)->W.grownBy w' v.ownBlock->(v'.ownBlock=v.ownBlock\/v'.ownBlock=some W.heap.size)->K (a.put o.dst v') w'):Oper.wp Tryz.prog o a W K Q:=by
 obtain ⟨v',w',T,h2,h3,J⟩:=Ee (ok:=ok) W base t o.type e z sz bytes I v n l E u m l2 V h1 G M D;unfold Oper.wp execOp;simp only [O,resolve,invoke,builtin,Sem.run_bind,Sem.run_pure,Result.andThen_ok,List.map_toArray,List.map_cons,List.map_nil,U,hx,T];exact h v' w' h2 h3 J
theorem wpList_append_row {rest:List Oper} {o:Oper} (J:o.guard=none) (W:World) (s x:Operand) {t e:TypeId} (I:ElemI t e z sz bytes)
  (T:o.op=.call { callee:=.builtin .append,args:=#[s,x],argTypes:=#[t,t] }) (base n m:Nat) (l l2:List Value) (v u:Value) (U:a.eval s=v) (hx:a.eval x=u)
  (E:W.ownsRow base e sz v n l) (V:AI W ok sz u m l2) (h1:∀u∈l2,u.oneCell'=true) (D:base<=W.heap.size) (G:n+m<=maxLen) (O:(n+m)*bytes<=140737488355328)
  (h:∀v' w',w'.ownsRow base e sz v' (n+m) (l++l2)->W.grownBy w' v.ownBlock->(v'.ownBlock=v.ownBlock\/v'.ownBlock=some W.heap.size)->wpList Tryz.prog ops Q rest (a.put o.dst v') w'):wpList Tryz.prog ops Q (o :: rest) a W:=by
 refine wpList_plain J fun K M=>?_
 exact CO W s x I T base n m l l2 v u U hx E V h1 D G O fun v' w' h1 h2 h3=>M _ _ (h v' w' h1 h2 h3)
theorem Cl {o:Oper} {E:Prop} (M:o.guard=none) (W:World) (s x:Operand) {t e:TypeId} (I:ElemI t e z sz bytes)
  (T:o.op=.call { callee:=.builtin .append,args:=#[s,x],argTypes:=#[t,t] }) (base n m:Nat) (l l2:List Value) (v u:Value) (U:a.eval s=v) (hx:a.eval x=u)
  (G:W.ownsRow base e sz v n l) (V:AI W ok sz u m l2) (h1:∀u∈l2,u.oneCell'=true) (D:base<=W.heap.size) (J:n+m<=maxLen) (O:(n+m)*bytes<=140737488355328)
  (h:∀v' w',w'.ownsRow base e sz v' (n+m) (l++l2)->W.grownBy w' v.ownBlock->(v'.ownBlock=v.ownBlock\/v'.ownBlock=some W.heap.size)->K (a.put o.dst v') w'):
  if Region.wanted o (yielded ops a.tmps)=true then Oper.wp Tryz.prog o a W K Q else E:=by
 have hw:Region.wanted o (yielded ops a.tmps)=true:=by simp [Region.wanted,M]
 rw [if_pos hw];exact CO W s x I T base n m l l2 v u U hx G V h1 D J O h
theorem eTask:ElemI 30 56 (.agg #[.string ⟨#[]⟩,.slice none 0 0,.slice none 0 0]) 3 64:=⟨Tryz.underlying30,Tryz.infoTask,rfl,by decide⟩
theorem eBools:ElemI 28 29 (.slice none 0 0) 1 24:=⟨Tryz.underlying28,Tryz.infoBools,rfl,by decide⟩
theorem eBool:ElemI 29 4 (.bool false) 1 1:=⟨Tryz.underlying29,Tryz.infoBool,rfl,by decide⟩
theorem eInt:ElemI 23 3 (.int .i64 0) 1 8:=⟨Tryz.underlying23,Tryz.infoInt,rfl,by decide⟩
theorem own_emptyT (W:World) (B:Nat) (e:TypeId) (sz:Nat) (D:B<=W.heap.size):(W.alloc (.cells #[] e)).ownsRow B e sz (.slice (some ⟨W.heap.size,0,none⟩) 0 0) 0 []:=
 ⟨by simp,.inr ⟨W.heap.size,0,#[],rfl,D,Fu W _,EG _,by decide,by simp,by simp⟩⟩
end
end Go.Proofs.YthbjngbhbbkkgaaGreat
