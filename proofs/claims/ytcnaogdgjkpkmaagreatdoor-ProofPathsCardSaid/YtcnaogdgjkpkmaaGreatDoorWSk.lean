import Derived.Test.YtcnaogdgjkpkmaaGreatDoorWSj
import Derived.Maps.AppendAt
import Derived.Deep.LoopGhost
import Derived.StillTailTactics
set_option linter.unusedVariables false
set_option linter.unusedSimpArgs false
set_option maxRecDepth 100000
set_option maxHeartbeats 16000000
namespace Go.Proofs.YtcnaogdgjkpkmaaGreatDoor
variable {b n:Int} {l:List Int} {xs:List Value} {B c i k q:Nat} {a:World}
section
open Go.RowKit
theorem reachL_pw (m:MZ) (t:Nat) (f us:List Int):(Bn m t f us).Pairwise (·<·):=by
 unfold Bn;apply List.Pairwise.filter;rw [List.pairwise_map];exact List.Pairwise.imp (fun h=>by simpa using h) List.pairwise_lt_range
theorem good_chk {m:MZ} (g:Am m):Br m=0:=by
 have d:=g.dim
 have r:[m.w,m.h,m.l].any side=false:=by
  have h1:=d.w1;have h2:=d.w2;have D:=d.h1;have E:=d.h2;have G:=d.l1;have I:=d.l2;simp [side];omega
 unfold Br;rw [r,if_neg (by simp),if_neg (by have:=d.n1;have:=g.tk;unfold MZ.n;omega),if_neg,if_neg]
 ·intro h;obtain ⟨t,ht,h1⟩:=EC.1 h;rw [EB] at h1;rcases h1 with h1 | h1
  ·obtain ⟨x,o,h2⟩:=EC.1 h1;have:=g.tn t ht x (.inl o);simp [Ao] at h2;omega
  ·obtain ⟨x,o,h2⟩:=EC.1 h1;have:=g.tn t ht x (.inr o);simp [Ao] at h2;omega
 ·intro h;rcases h with h | h | h
  ·exact h g.fl
  ·exact h d.up
  ·obtain ⟨f,hf,h2⟩:=EC.1 h;have:=g.fn f hf;simp at h2;exact h2 this
theorem mazeFree {W:World} {ok:Nat->Prop} {m:MZ} {vfr vup vts:Value} (h:zM W ok (.agg #[.int .i64 m.w,.int .i64 m.h,.int .i64 m.l,vfr,vup,vts]) m) (hfn:∀f∈m.free,(f.length:Int)=m.n) {t:Nat} (ht:t<m.free.length) (h0:0<=n) (h1:n<m.n):
  ∃b off c b' off' l c',vfr=.slice (some ⟨b,off,none⟩) m.free.length c/\W.cell? ⟨b,off+t,none⟩=some (.slice (some ⟨b',off',none⟩) l c')/\n<(l:Int)/\l<=c'/\m.free.length<=c/\W.cell? ⟨b',off'+n.toNat,none⟩=some (.bool (zl m t n)):=by
 obtain ⟨fr',up',ts',he,o,_,_⟩:=h;injection he with he;injection he with he;simp only [List.cons.injEq,and_true,true_and] at he;obtain ⟨rfl,rfl,rfl⟩:=he;obtain ⟨vsf,⟨Af,cf,rfl,I,M⟩,J⟩:=o;obtain ⟨bf,off3,uf,rfl,_,D,E⟩:=BG M J ht ht;have K:=hfn _ (DD ht);obtain ⟨A4,c4,rfl,G,L⟩:=E;have r:n.toNat<(m.free[t]).length:=by omega
 obtain ⟨b4,off4,rfl,_,d⟩:=CC L r r;have o:(m.free[t])[n.toNat]=zl m t n:=by simp [zl,ht,r]
 rw [o] at d;exact ⟨bf,off3,cf,b4,off4,_,c4,rfl,D,by omega,G,I,d⟩
end
section
open Go.RowKit
attribute [local go_sem ↓] Go.wp_at_zero Go.wp_at_succ
def Dy (w:World) (ok:Nat->Prop) (p:Nat) (m:MZ) (ch:List Int):Prop:=
 ∃us f u t vc vp gu,(∀x,x∈us↔x∈ch)/\AQ w ok p m ch (Ad m ch) us f u t vc vp gu
section
variable {w w':World} {ok ok':Nat->Prop} {p:Nat} {m:MZ} {ch:List Int}
theorem Dy.keep (h:Dy w ok p m ch) (d:zW ok w w'):Dy w' ok p m ch:=by
 obtain ⟨us,f,u,t,vc,vp,gu,h1,h2⟩:=h;exact ⟨us,f,u,t,vc,vp,gu,h1,h2.keep d⟩
theorem Dy.weaken (h:Dy w ok p m ch) (d:∀b,ok b->ok' b):Dy w ok' p m ch:=by
 obtain ⟨us,f,u,t,vc,vp,gu,h1,h2⟩:=h;exact ⟨us,f,u,t,vc,vp,gu,h1,h2.weaken d⟩
theorem Dy.bound (h:Dy w ok p m ch):Dy w (fun b=>ok b/\b<w.heap.size) p m ch:=by
 obtain ⟨us,f,u,t,vc,vp,gu,h1,h2⟩:=h;exact ⟨us,f,u,t,vc,vp,gu,h1,h2.bound⟩
theorem Dy.ext (h:Dy w ok p m ch) (d:zc w w'):Dy w' ok p m ch:=h.keep (zW.of_below d)
end
theorem begin_c {ok:Nat->Prop} {v:Value} {m:MZ} (w:World) (hm:zM w ok v m) (d:m.tasks.length<=100000):
  Calls Tryz.prog 90 #[v] w fun e w'=>∃p,e=.returned (.pointer (some ⟨p,0,none⟩))/\zc w w'/\Dy w' (fun b=>ok b\/w.heap.size<=b) p m []:=by
 refine (begin_calls w hm d).mono ?_;rintro e w' ⟨v',rfl,o,g,f,u,t,vc,vp,gu,rfl,h⟩;exact ⟨g,rfl,o,[],f,u,t,vc,vp,gu,fun _=>Iff.rfl,h⟩
theorem CW {ok:Nat->Prop} {m:MZ} {ch:List Int} {p:Nat} (w:World) (h:Dy w ok p m ch) (g:Am m) (o:Lens m) (d:zw m ch):
  Calls Tryz.prog 54 #[.pointer (some ⟨p,0,none⟩)] w fun e w'=>e=.returned (.bool (AR m ch))/\zG w w':=by
 obtain ⟨us,f,u,t,vc,vp,gu,h1,h2⟩:=h;exact BE w h2 (d.sok g o)
theorem Ci {ok:Nat->Prop} {m:MZ} {ch:List Int} {p:Nat} (w:World) (h:Dy w ok p m ch) (g:Am m) (o:Lens m) (d:zw m ch):
  Calls Tryz.prog 91 #[.pointer (some ⟨p,0,none⟩)] w fun e w'=>∃v',e=.returned v'/\Mk w w' v' (Bc m ch):=by
 obtain ⟨us,f,u,t,vc,vp,gu,h1,h2⟩:=h;unfold Bc;rw [<-candL_congr h1];exact candidates_calls w h2 (d.sok g o)
theorem open_c {ok:Nat->Prop} {m:MZ} {ch:List Int} {p:Nat} (w:World) (h:Dy w ok p m ch) (g:Am m) (o:Lens m) (d:zw m ch):
  Calls Tryz.prog 93 #[.pointer (some ⟨p,0,none⟩)] w fun e w'=>e=.returned (.bool (Bu m ch))/\zc w w':=by
 obtain ⟨us,f,u,t,vc,vp,gu,h1,h2⟩:=h;unfold Bu;rw [<-openB_congr h1];exact open_calls w h2 (d.sok g o)
theorem with_c {ok:Nat->Prop} {m:MZ} {ch:List Int} {p:Nat} (w:World) (h:Dy w ok p m ch) (g:Am m) (o:Lens m) (d:zw m ch) (r:n∈Bc m ch):
  Calls Tryz.prog 92 #[.pointer (some ⟨p,0,none⟩),.int .i64 n] w fun e w'=>∃q,e=.returned (.pointer (some ⟨q,0,none⟩))/\zc w w'/\Dy w' (fun b=>(ok b/\b<w.heap.size)\/w.heap.size<=b) q m (ch++[n]):=by
 obtain ⟨us,f,u,t,vc,vp,gu,h1,h2⟩:=h;have hp:=d.psOk.pn (BU (Ck r));refine (with_calls n w h2.bound (d.sok g o) (d.sok1 g o r) hp).mono ?_;rintro e w' ⟨v',rfl,G,us',D,q,f',u',t',vc',vp',gu',rfl,E⟩;refine ⟨q,rfl,G,us',f',u',t',vc',vp',gu',fun x=>?_,?_⟩
 ·rw [D,h1,Er,Ej];exact Or.comm
 ·rw [CR];exact E
def okR (X Y:Nat->Prop) (g gr:Nat) (b:Nat):Prop:=(X b/\b≠g/\b≠gr)\/Y b
def ptrV (p:Nat):Value:=.pointer (some ⟨p,0,none⟩)
def RtRow (w:World) (X Y:Nat->Prop) (g gr cap:Nat) (m:MZ) (ch:List Int) (ptrs:List Nat):Prop:=
 w.ownsRow 0 92 1 (.slice (some ⟨gr,0,none⟩) ptrs.length cap) ptrs.length (ptrs.map ptrV)/\ptrs.length=ch.length+1/\∀(k p:Nat),ptrs[k]?=some p->Dy w (okR X Y g gr) p m (ch.take k)
structure Av (w:World) (X Y:Nat->Prop) (g gr cap:Nat) (m:MZ) (s:RS) (ptrs:List Nat):Prop where
 blk:zj w g 91 #[.slice (some ⟨gr,0,none⟩) ptrs.length cap,.bool s.done,.int .i64 s.steps]
 xg:X g
 xr:X gr
 ne:g≠gr
 yg:¬ Y g
 yr:¬ Y gr
 row:RtRow w X Y g gr cap m s.ch ptrs
structure zm (X:Nat->Prop) (w w':World):Prop where
 os:w'.os=w.os
 tape:w'.tape=w.tape
 output:w'.output=w.output
 size:w.heap.size<=w'.heap.size
 block:∀b,b<w.heap.size->¬ X b->w'.heap[b]?=w.heap[b]?
theorem zm.refl (X:Nat->Prop) (w:World):zm X w w:=⟨rfl,rfl,rfl,DC _,fun _ _ _=>rfl⟩
theorem zm.of_ext {X:Nat->Prop} {w w':World} (h:zc w w'):zm X w w':=⟨h.os,h.tape,h.output,h.size,fun b d _=>h.block b d⟩
theorem zm.trans {X X':Nat->Prop} {a b c:World} (h:zm X a b) (d:zm X' b c) (E:∀k,k<a.heap.size->X' k->X k):zm X a c:=
 ⟨d.os.trans h.os,d.tape.trans h.tape,d.output.trans h.output,DE h.size d.size,fun k o D=>(d.block k (Ee o h.size) (fun r=>D (E k o r))).trans (h.block k o D)⟩
theorem zm.same {X ok:Nat->Prop} {w w':World} (h:zm X w w') (r:∀b,ok b->¬ X b):zW ok w w':=fun b o d=>h.block b d (r b o)
theorem zm.below {X:Nat->Prop} {w w':World} (h:zm X w w') (r:B<=w.heap.size) (d:∀b,X b->B<=b):Below B w w':=
 ⟨h.os,h.tape,h.output,h.size,fun b D=>h.block b (by omega) (fun o=>by have:=d b o;omega)⟩
section
variable {w w':World} {X Y X' Y':Nat->Prop} {g gr cap:Nat} {m:MZ} {s:RS} {ptrs:List Nat} {ch:List Int}
theorem row_keep {n:Nat} {e:TypeId} {size:Nat} (h:w.ownsRow B e size (.slice (some ⟨gr,0,none⟩) n c) n xs) (r:w'.heap[gr]?=w.heap[gr]?):w'.ownsRow B e size (.slice (some ⟨gr,0,none⟩) n c) n xs:=by
 obtain ⟨E,⟨h0,_⟩ | ⟨g',cap',cur,d,h1,h2,o⟩⟩:=h
 ·cases h0
 ·have D:g'=gr:=by injection d with d;injection d with d;injection d with d;exact d.symm
  subst D;exact ⟨E,.inr ⟨g',cap',cur,d,h1,r.trans h2,o⟩⟩
theorem row_shrink {n:Nat} {e:TypeId} (h:w.ownsRow B e 1 (.slice (some ⟨gr,0,none⟩) n c) n xs) (J:k<=n):w.ownsRow B e 1 (.slice (some ⟨gr,0,none⟩) k c) k (xs.take k):=by
 obtain ⟨G,⟨h0,_⟩ | ⟨g',cap',cur,d,h1,h2,I,o,r,D⟩⟩:=h
 ·cases h0
 ·injection d with d K E;injection d with d;injection d with d;subst d E;refine ⟨by rw [Et,G];omega,.inr ⟨gr,c,cur,rfl,h1,h2,by omega,o,r,?_⟩⟩;rw [<-D,List.take_take];congr 1;omega
theorem RtRow.keep (h:RtRow w X Y g gr cap m ch ptrs) (E:∀b,b<w.heap.size->(X b/\b≠g)\/Y b->w'.heap[b]?=w.heap[b]?) (o:X gr) (D:g≠gr):RtRow w' X Y g gr cap m ch ptrs:=by
 obtain ⟨h1,h2,G⟩:=h;have d:gr<w.heap.size:=(h1.lt gr rfl).2;refine ⟨row_keep h1 (E gr d (.inl ⟨o,Ne.symm D⟩)),h2,fun k p hp=>(G k p hp).keep fun b hb r=>E b r ?_⟩;rcases hb with hb | hb
 ·exact .inl ⟨hb.1,hb.2.1⟩
 ·exact .inr hb
theorem RtRow.last (h:RtRow w X Y g gr cap m ch ptrs):∃p,ptrs[ch.length]?=some p/\Dy w (okR X Y g gr) p m ch/\w.cell? ⟨gr,ch.length,none⟩=some (ptrV p):=by
 obtain ⟨h1,h2,o⟩:=h;have d:ch.length<ptrs.length:=by omega
 refine ⟨ptrs[ch.length],DA d,by have:=o _ _ (DA d);rwa [DN] at this,?_⟩;rw [World.ownsRow.cellAt h1 _ (by omega),Ek,DA d];rfl
theorem Av.same (h:Av w X Y g gr cap m s ptrs) (d:∀b,b<w.heap.size->X b\/Y b->w'.heap[b]?=w.heap[b]?):Av w' X Y g gr cap m s ptrs:=
 ⟨(d g (zb h.blk) (.inl h.xg)).trans h.blk,h.xg,h.xr,h.ne,h.yg,h.yr,h.row.keep (fun b o hx=>d b o (by rcases hx with hx | hx;exact .inl hx.1;exact .inr hx)) h.xr h.ne⟩
theorem Av.ext (h:Av w X Y g gr cap m s ptrs) (d:zc w w'):Av w' X Y g gr cap m s ptrs:=h.same fun b o _=>d.block b o
end
theorem last_calls {g gr P cap n p:Nat} (w:World) (d:w.cell? ⟨g,0,none⟩=some (.slice (some ⟨gr,0,none⟩) P cap)) (o:w.cell? ⟨gr,n,none⟩=some (ptrV p)) (D:P=n+1) (r:P<=cap) (J:n<=1000):
  Calls Tryz.prog 53 #[.pointer (some ⟨g,0,none⟩)] w fun e w'=>e=.returned (ptrV p)/\zG w w':=by
 have r0:=zc.rule d;have r1:=zc.rule o;have E:(0:Int)<=(n:Int):=by omega
 have G:(n:Int)<(P:Int):=by omega
 have I:IntKind.i64.wrap ((P:Int) - 1)=(n:Int):=by rw [DY];omega
 clear d o D;have K:=zc.refl w
 go_enter Tryz.func53,Tryz.ntmps53
 go_wp2_with fail
 go_quiet (fail)
 go_wp2;go_ret;exact ⟨rfl,(zG.refl w).more _⟩
theorem last_c {w w':World} {X Y:Nat->Prop} {g gr cap p:Nat} {m:MZ} {s:RS} {ptrs:List Nat} (h:Av w X Y g gr cap m s ptrs) (hp:ptrs[s.ch.length]?=some p) (r:s.ch.length<=1000):
  Calls Tryz.prog 53 #[.pointer (some ⟨g,0,none⟩)] w fun e w'=>e=.returned (.pointer (some ⟨p,0,none⟩))/\zG w w':=by
 obtain ⟨p',d,_,o⟩:=h.row.last;rw [hp] at d;injection d with d;subst d;exact last_calls w (h.blk.cell (k:=0) rfl) o h.row.2.1 (AN h.row.1) r
end
section
open Go.RowKit
section
variable {w w' W:World} {X Y:Nat->Prop} {g gr cap:Nat} {m:MZ} {s:RS} {ptrs:List Nat} {ch:List Int}
theorem Av.okR_ne (h:Av w X Y g gr cap m s ptrs) {b:Nat} (d:okR X Y g gr b):b≠g/\b≠gr:=by
 rcases d with ⟨_,h1,h2⟩ | hy
 ·exact ⟨h1,h2⟩
 ·exact ⟨fun e=>h.yg (e ▸ hy),fun e=>h.yr (e ▸ hy)⟩
theorem Av.setg (h:Av w X Y g gr cap m s ptrs) (j:Nat) (v:Value) {s':RS} (d:s'.ch=s.ch) (o:(#[.slice (some ⟨gr,0,none⟩) ptrs.length cap,.bool s.done,.int .i64 s.steps]:Array Value).setIfInBounds j v=#[.slice (some ⟨gr,0,none⟩) ptrs.length cap,.bool s'.done,.int .i64 s'.steps]):
  Av (w.setCell ⟨g,j,none⟩ v) X Y g gr cap m s' ptrs:=
 ⟨by have:=h.blk.set (k:=j) v;rwa [o] at this,h.xg,h.xr,h.ne,h.yg,h.yr,by
  rw [d]
  exact h.row.keep (fun b o hx=>DL w ⟨g,j,none⟩ v b (by
   show b≠g;rcases hx with hx | hx
   ·exact hx.2
   ·exact fun e=>h.yg (e ▸ hx))) h.xr h.ne⟩
theorem Av.done (h:Av w X Y g gr cap m s ptrs) (d:Bool):Av (w.setCell ⟨g,1,none⟩ (.bool d)) X Y g gr cap m ⟨s.ch,d,s.steps⟩ ptrs:=h.setg 1 _ rfl rfl
theorem Av.stepsTo (h:Av w X Y g gr cap m s ptrs) (n:Int):Av (w.setCell ⟨g,2,none⟩ (.int .i64 n)) X Y g gr cap m ⟨s.ch,s.done,n⟩ ptrs:=h.setg 2 _ rfl rfl
theorem Av.widen {X':Nat->Prop} (h:Av w X Y g gr cap m s ptrs) (d:∀b,X b->X' b):Av w X' Y g gr cap m s ptrs:=
 ⟨h.blk,d _ h.xg,d _ h.xr,h.ne,h.yg,h.yr,h.row.1,h.row.2.1,fun k p hp=>(h.row.2.2 k p hp).weaken fun b hb=>by
  rcases hb with hb | hb
  ·exact .inl ⟨d _ hb.1,hb.2⟩
  ·exact .inr hb⟩
theorem chg_setg {X:Nat->Prop} (w:World) (o:X g) (j:Nat) (v:Value):zm X w (w.setCell ⟨g,j,none⟩ v):=
 ⟨rfl,rfl,rfl,by simp [World.setCell],fun b _ d=>DL w ⟨g,j,none⟩ v b (by rintro rfl;exact d o)⟩
theorem zm.tr {X:Nat->Prop} {b c:World} (h:zm X a b) (d:zm X b c):zm X a c:=h.trans d (fun _ _ h=>h)
theorem zm.ext_r {X:Nat->Prop} {b c:World} (h:zm X a b) (d:zc b c):zm X a c:=h.tr (zm.of_ext d)
theorem Av.pop (h:Av w X Y g gr cap m s ptrs) (G:k<=s.ch.length):Av (w.setCell ⟨g,0,none⟩ (.slice (some ⟨gr,0,none⟩) (k+1) cap)) X Y g gr cap m ⟨s.ch.take k,s.done,s.steps⟩ (ptrs.take (k+1)):=by
 have r:=h.row.2.1;have o:(ptrs.take (k+1)).length=k+1:=by rw [Et];omega
 have d:∀b,(X b/\b≠g)\/Y b->(w.setCell ⟨g,0,none⟩ (.slice (some ⟨gr,0,none⟩) (k+1) cap)).heap[b]?=w.heap[b]?:=fun b hx=>DL w ⟨g,0,none⟩ _ b (by
  show b≠g;rcases hx with hx | hx
  ·exact hx.2
  ·exact fun e=>h.yg (e ▸ hx))
 have E:w.ownsRow 0 92 1 (.slice (some ⟨gr,0,none⟩) (k+1) cap) (k+1) ((ptrs.take (k+1)).map ptrV):=by
  rw [List.map_take];exact row_shrink h.row.1 (by omega)
 refine ⟨?_,h.xg,h.xr,h.ne,h.yg,h.yr,?_,?_,?_⟩
 ·have:=h.blk.set (k:=0) (.slice (some ⟨gr,0,none⟩) (k+1) cap);rw [o];exact this
 ·rw [o];exact row_keep E (d gr (.inl ⟨h.xr,Ne.symm h.ne⟩))
 ·simp only [Et];omega
 ·intro j p hp
  have D:j<k+1:=by
   rcases DZ j (k+1) with h1 | h1
   ·exact h1
   ·rw [DW (by omega)] at hp;cases hp
  rw [List.getElem?_take_of_lt D] at hp;have:=h.row.2.2 j p hp;rw [List.take_take,Nat.min_eq_left (by omega)]
  exact this.keep fun b hb _=>d b (by
   rcases hb with hb | hb
   ·exact .inl ⟨hb.1,hb.2.1⟩
   ·exact .inr hb)
theorem Av.push (h:Av w X Y g gr cap m s ptrs) {o:Obj} {v':Value} {w5:World} (a3:Dy w (okR X Y g gr) q m (s.ch++[n])) (O:∀b,w.heap.size<=b->X b) (Q:∀b,Y b->b<w.heap.size)
  (J:w5.ownsRow 0 92 1 v' (ptrs.length+1) (ptrs.map ptrV++[ptrV q])) (L:(w.alloc o).grownBy w5 (some gr)) (hv:v'.ownBlock=some gr\/v'.ownBlock=some (w.heap.size+1)):
  ∃gr' cap',v'=.slice (some ⟨gr',0,none⟩) (ptrs.length+1) cap'/\Av (w5.setCell ⟨g,0,none⟩ v') X Y g gr' cap' m ⟨s.ch++[n],s.done,s.steps⟩ (ptrs++[q])/\zm X w (w5.setCell ⟨g,0,none⟩ v'):=by
 obtain ⟨gr',cap',rfl,_,a8⟩:=World.ownsRow.form J (by omega)
 have D:gr'=gr\/gr'=w.heap.size+1:=by
  rcases hv with hv | hv
  ·left;simpa [Value.ownBlock] using hv
  ·right;simpa [Value.ownBlock] using hv
 have a0:g<w.heap.size:=zb h.blk;have b0:gr<w.heap.size:=(h.row.1.lt gr rfl).2;have a4:w.heap.size<=w5.heap.size:=DE (by simp) L.size
 have I:g≠gr':=by
  rcases D with rfl | rfl
  ·exact h.ne
  ·omega
 have E:∀b,b<w.heap.size->b≠gr->w5.heap[b]?=w.heap[b]?:=fun b d K=>(L.block b (by simp;omega) (fun e=>K (by injection e))).trans (DV _ _ _ d)
 have r:∀b,b<w.heap.size->b≠gr->b≠g->(w5.setCell ⟨g,0,none⟩ (.slice (some ⟨gr',0,none⟩) (ptrs.length+1) cap')).heap[b]?=w.heap[b]?:=fun b d K V=>(DL w5 ⟨g,0,none⟩ _ b V).trans (E b d K)
 have a2:∀b,okR X Y g gr b/\b<w.heap.size->okR X Y g gr' b:=by
  rintro b ⟨d,a7⟩;rcases d with ⟨h1,h2,h3⟩ | hy
  ·exact .inl ⟨h1,h2,by rcases D with rfl | rfl;exact h3;omega⟩
  ·exact .inr hy
 have G:∀(p:Nat) (c:List Int),Dy w (okR X Y g gr) p m c->Dy (w5.setCell ⟨g,0,none⟩ (.slice (some ⟨gr',0,none⟩) (ptrs.length+1) cap')) (okR X Y g gr') p m c:=fun p c hs=>
  (hs.bound.keep fun b d _=>r b d.2 (h.okR_ne d.1).2 (h.okR_ne d.1).1).weaken a2
 have M:=h.row.2.1;refine ⟨gr',cap',rfl,⟨?_,h.xg,?_,I,h.yg,?_,?_,?_,?_⟩,?_⟩
 ·have U:zj w5 g 91 #[.slice (some ⟨gr,0,none⟩) ptrs.length cap,.bool s.done,.int .i64 s.steps]:=(E g a0 h.ne).trans h.blk;have:=U.set (k:=0) (.slice (some ⟨gr',0,none⟩) (ptrs.length+1) cap');rw [DK,Ec];exact this
 ·rcases D with rfl | rfl
  ·exact h.xr
  ·exact O _ (by omega)
 ·rcases D with rfl | rfl
  ·exact h.yr
  ·intro hy;have:=Q _ hy;omega
 ·rw [DK,Ec,Es];exact row_keep J (DL w5 ⟨g,0,none⟩ _ gr' (Ne.symm I))
 ·simp [M]
 ·intro k p hp;rcases DZ k ptrs.length with hk | hk
  ·rw [DH hk] at hp;rw [List.take_append_of_le_length (by omega)];exact G _ _ (h.row.2.2 k p hp)
  ·have a1:k=ptrs.length:=by
    rcases DZ k (ptrs++[q]).length with h1 | h1
    ·simp at h1;omega
    ·rw [DW h1] at hp;cases hp
   subst a1;rw [DI (DC _)] at hp;have hq:q=p:=by simpa using hp
   subst hq;rw [List.take_of_length_le (by simp;omega)];exact G _ _ a3
 ·exact ⟨L.os,L.tape,L.output,by simpa [World.setCell] using a4,fun b d hx=>r b d (fun e=>hx (e ▸ h.xr)) (fun e=>hx (e ▸ h.xg))⟩
end
noncomputable def srch (m:MZ) (ch:List Int) (k:Nat) (b:Int):Option (List Int):=
 match aft m (ch.take k) b with
 | some n=>some (ch.take k++[n])
 | none=>backN m ch k
theorem srch_top (m:MZ) (ch:List Int):srch m ch ch.length (-1)=stepC m ch:=by
 unfold srch stepC;rw [DN]
 all_goals (cases aft m ch (-1) <;> rfl)
theorem srch_back {m:MZ} {ch:List Int} (h:aft m (ch.take (k+1)) b=none):srch m ch (k+1) b=srch m ch k (ch.getD k 0):=by
 unfold srch;rw [h];rfl
theorem srch_zero {m:MZ} {ch:List Int} (h:aft m (ch.take 0) b=none):srch m ch 0 b=none:=by
 unfold srch;rw [h];rfl
theorem aft_none {m:MZ} {ch:List Int} (d:l=Bc m ch) (h:∀n∈l,¬ (b<n/\Bu m (ch++[n])=true)):aft m ch b=none:=by
 unfold aft;rw [List.find?_eq_none];intro n o;have:=h n (by rw [d];exact o);simp only [DO,DM];exact this
theorem aft_at {m:MZ} {ch:List Int} (o:i<(Bc m ch).length) (h:∀n∈(Bc m ch).take i,¬ (b<n/\Bu m (ch++[n])=true)) (h1:b<(Bc m ch)[i]) (h2:Bu m (ch++[(Bc m ch)[i]])=true):aft m ch b=some (Bc m ch)[i]:=by
 unfold aft;generalize Bc m ch=l at*;obtain ⟨x,d⟩:=EH (l[i]);rw [<-d] at h1 h2⊢
 have D:l=l.take i++x :: l.drop (i+1):=by
  rw [d,List.getElem_cons_drop o,List.take_append_drop]
 rw [D,List.find?_append,List.find?_eq_none.2 (fun n r=>by
  have:=h n r;simp only [DO,DM];exact this)]
 simp [h1,h2]
end
section
open Go.RowKit
attribute [local go_sem ↓] Go.wp_at_zero Go.wp_at_succ
theorem Tryz.infoPst:(Tryz.prog.info? 92).map (fun i=>(i.zero,i.size,i.bytes))=some (some (.pointer none),1,8):=by kernel_rfl
structure SR (w wr:World) (X Y:Nat->Prop) (g gr cap:Nat) (m:MZ) (s:RS) (pt:List Nat) (k:Nat) (b:Int):Prop where
 rt:Av wr X Y g gr cap m ⟨s.ch.take k,s.done,s.steps+1⟩ pt
 chg:zm X w wr
 se:srch m s.ch k b=stepC m s.ch
def StepPost (w:World) (X Y:Nat->Prop) (g:Nat) (m:MZ) (s:RS) (e:Ending) (w':World):Prop:=
 e=.returned (.tuple #[])/\∃gr' cap' ptrs',Av w' X Y g gr' cap' m (s.one m) ptrs'/\zm X w w'
theorem no_step {m:MZ} {ch:List Int} (h:∀n∈l.take i,¬ (b<n/\Bu m (ch++[n])=true)) (d:i<l.length) (h1:¬ (b<l[i]/\Bu m (ch++[l[i]])=true)):∀n∈l.take (i+1),¬ (b<n/\Bu m (ch++[n])=true):=by
 intro n o;rcases (zR d n).1 o with h2 | rfl
 ·exact h n h2
 ·exact h1
theorem aft_of {m:MZ} {ch:List Int} (o:l=Bc m ch) (d:i<l.length) (r:n=l[i]) (h:∀n∈l.take i,¬ (b<n/\Bu m (ch++[n])=true)) (h1:b<n) (h2:Bu m (ch++[n])=true):aft m ch b=some n:=by
 subst o r;exact aft_at d h h1 h2
theorem push_ok {w w3 w4:World} {X Y:Nat->Prop} {g gr cap:Nat} {m:MZ} {s:RS} {pt:List Nat} {c:List Int} (r:Dy w4 (fun b=>(okR X Y g gr b/\b<w3.heap.size)\/w3.heap.size<=b) q m c) (D:zc w w3) (o:Av w X Y g gr cap m s pt) (d:∀b,w.heap.size<=b->X b):Dy w4 (okR X Y g gr) q m c:=
 r.weaken fun b hb=>by
  rcases hb with hb | hb
  ·exact hb.1
  ·have h1:g<w.heap.size:=zb o.blk;have h2:gr<w.heap.size:=(o.row.1.lt gr rfl).2;have E:=D.size;exact .inl ⟨d b (by omega),by omega,by omega⟩
theorem stepX_calls {X Y:Nat->Prop} {g gr cap:Nat} {m:MZ} {s:RS} {ptrs:List Nat} (w:World) (h:Av w X Y g gr cap m s ptrs) (gd:Am m) (hl:Lens m) (hc:zw m s.ch) (i8:0<=s.steps) (i9:s.steps<=4000000000000000000)
  (e4:∀b,w.heap.size<=b->X b) (e6:∀b,Y b->b<w.heap.size):
  Calls Tryz.prog 52 #[.pointer (some ⟨g,0,none⟩)] w (StepPost w X Y g m s):=by
 obtain ⟨ch,dn,st⟩:=s;dsimp only at i8 i9 hc;have H:=zh h;have b9:w.cell? ⟨g,2,none⟩=some (.int .i64 st):=h.blk.cell (k:=2) rfl;have hf:=fun k=>h.blk.frozen k
 have GD:=zh gd;have HL:=zh hl;have HC:=zh hc;have e2:=zh e4;have h5:=zh e6;have j6:=hc.len300 gd;clear h gd hl hc e4 e6
 have e1:Hid (SR w (w.setCell ⟨g,2,none⟩ (.int .i64 (st+1))) X Y g gr cap m ⟨ch,dn,st⟩ ptrs ch.length (-1)):=by
  refine ⟨?_,chg_setg w H.out.xg 2 _,srch_top m ch⟩;have h1:=H.out.stepsTo (st+1);dsimp only at h1⊢;rw [DN];exact h1
 obtain ⟨i0,hi,f8,f9,g0⟩:=info_parts Tryz.infoPst;have IF:=zh hi;have IZ0:=zh f8;have IZ1:=zh f9;have IZ2:=zh g0;clear hi f8 f9 g0
 go_enter Tryz.func52,Tryz.ntmps52
 go_wp2_with fail
 go_step3
 go_wp2_with fail
 go_step3
 go_wp2_with fail
 clear b9 hf
 go_loopg [2] ch.length (fun gk v wr=>∃b pt,v=.int .i64 b/\gk<=ch.length/\Hid (SR w wr X Y g gr cap m ⟨ch,dn,st⟩ pt gk b))
 case atStart=>exact ⟨-1,ptrs,rfl,DC _,e1⟩
 clear e1
 case round=>
  obtain ⟨b,pt,rfl,hk,V⟩:=hrel;obtain ⟨wo,rfl⟩:∃wo:World,wo=wr:=⟨_,rfl⟩;have d:=V.out.rt;obtain ⟨p,hp,a8,i1⟩:=d.row.last;have f3:(ch.take gk).length=gk:=by rw [Et];omega
  have b5:=zh (last_c (w':=wo) d hp (by dsimp only;rw [f3];omega));have a4:=zh a8;dsimp only at a4;clear d hp a8 i1
  go_wp2_with fail
  refine b5.out.mono ?_;rintro e w1 ⟨rfl,a7⟩;have c9:zc wo w1:=a7.below _;clear a7
  go_wp2_with fail
  refine (Ci _ (a4.out.ext c9) GD.out HL.out (HC.out.take gk)).mono ?_;rintro e w2 ⟨v2,rfl,a5⟩;obtain ⟨A2,c2,rfl,b9⟩:=a5.slice;have j0:zc wo w2:=c9.trans a5.ext;have i7:(Bc m (ch.take gk)).length<=400000000000:=CM HL.out _;have d7:=zh a5;clear a5 c9;obtain ⟨l,c0⟩:=EH (Bc m (ch.take gk));rw [<-c0] at d7 b9 i7⊢;have b6:=zh c0;clear c0
  go_wp2_with fail
  go_loopg [19] l.length (fun gi v wz=>∃i:Nat,v=.int .i64 i/\i<=l.length/\gi=l.length - i/\Hid (zc w2 wz/\∀n∈l.take i,¬ (b<n/\Bu m (ch.take gk++[n])=true)))
  case atStart=>exact ⟨0,rfl,DR _,rfl,zc.refl _,by simp⟩
  case round=>
   obtain ⟨i,rfl,hi,rfl,hZ⟩:=hrel;have hz:=hZ.out.1;have J:zc wo wr:=j0.trans hz;rcases DZ i l.length with Q | hge
   ·obtain ⟨bl,rfl,_,I⟩:=own_at d7.out.own Q;obtain ⟨n,hn⟩:=EH (l[i]);rw [<-hn] at I;have q0:=zc.rule I
    have c6:Hid (n∈Bc m (ch.take gk)):=by
     show n∈_;rw [<-b6.out,hn];exact DD _
    have HN:=zh hn;clear I hn;by_cases U:n<=b
    ·have hd:decide (n<=b)=true:=DF U;have b7:=zh U;clear U
     go_wp2_with fail
     go_roundg (l.length - (i+1))
     case measure=>omega
     case rel=>exact ⟨i+1,by go_num,Q,rfl,hZ.out.1,no_step hZ.out.2 Q (fun h=>by have:=b7.out;rw [<-HN.out] at h;omega)⟩
    ·have hd:decide (n<=b)=false:=DG U;have b7:=zh U;clear U
     go_wp2_with fail
     refine (with_c _ (a4.out.ext J) GD.out HL.out (HC.out.take gk) c6.out).mono ?_;rintro e w3 ⟨q,rfl,a9,hq⟩;have HQ:=zh hq;clear hq
     go_wp2_with fail
     refine (open_c w3 HQ.out GD.out HL.out (.snoc (HC.out.take gk) c6.out)).mono ?_;rintro e w4 ⟨rfl,a2⟩;obtain ⟨ob,c7⟩:=EH (Bu m (ch.take gk++[n]));rw [<-c7];have d9:=zh c7;clear c7
     cases ob with
     | false=>
      have j1:zc w2 w4:=hz.trans (a9.trans a2);clear a9 a2
      go_wp2_with fail
      go_roundg (l.length - (i+1))
      case measure=>omega
      case rel=>exact ⟨i+1,by go_num,Q,rfl,j1,no_step hZ.out.2 Q (fun h=>by rw [<-HN.out,<-d9.out] at h;exact absurd h.2 (by simp))⟩
     | true=>
      have M:zc wo w4:=J.trans (a9.trans a2);have h4:=zh (push_ok (HQ.out.ext a2) J V.out.rt (fun b hb=>e2.out b (DE V.out.chg.size hb)));have d:=V.out.rt.ext M;have O:w4.cell? ⟨g,0,none⟩=some (.slice (some ⟨gr,0,none⟩) pt.length cap):=d.blk.cell (k:=0) rfl;have hf:=fun k=>d.blk.frozen k
      have o:=zh d;clear d;have r:pt.length=gk+1:=by have:=o.out.row.2.1;dsimp only at this;omega
      have e0:=zh r;have j7:pt.length+1<=1000:=by omega
      clear a9 a2 hz J r
      go_wp2_with (at_builtin;refine wpList_append_own_at _ rfl _ _ 89 rfl 0 92 i0 (.pointer none) 1 8 Tryz.underlying89 IF.out IZ0.out IZ1.out IZ2.out rfl (by decide) (.slice (some ⟨gr,0,none⟩) pt.length cap) pt.length _ rfl (o.out.row.1.alloc _) ⟨w4.heap.size,0,none⟩ 1 1 [ptrV q] rfl rfl (cell_one_new _ _ _) (by simp [ptrV,Value.oneCell']) (by unfold maxLen;omega) (by omega) (DR _) ?_)
      intro v' w5 b2 hg _ f6;have e3:∀b,w4.heap.size<=b->X b:=fun b hb=>e2.out b (DE V.out.chg.size (DE M.size hb))
      have e5:∀b,Y b->b<w4.heap.size:=fun b hb=>Ee (h5.out b hb) (DE V.out.chg.size M.size)
      obtain ⟨gr',cap',rfl,b3,b1⟩:=o.out.push h4.out e3 e5 b2 hg f6;have G:w5.heap[g]?=w4.heap[g]?:=(hg.block g (by have:=zb o.out.blk;simp;omega) (fun e=>o.out.ne (by injection e))).trans (DV _ _ _ (zb o.out.blk));have h7:w5.cell? ⟨g,0,none⟩=some (.slice (some ⟨gr,0,none⟩) pt.length cap):=(DS G).trans O;have i2:w5.frozen? ⟨g,0,none⟩=false:=(Eb (a:=⟨g,0,none⟩) G).trans (hf 0);have g7:=zh ((V.out.chg.ext_r M).tr b1);have K:=zh b3;clear b2 hg f6 b3 b1 O hf G e3 e5
      go_wp2_with fail
      clear h7 i2;generalize w5.setCell ⟨g,0,none⟩ (.slice (some ⟨gr',0,none⟩) (pt.length+1) cap')=w6 at*;have f4:(ch.take gk++[n]).length=pt.length:=by have:=e0.out;simp;omega
      have c8:(pt++[q])[(ch.take gk++[n]).length]?=some q:=by rw [f4];simp
      have b4:Dy w6 (okR X Y g gr') q m (ch.take gk++[n]):=by
       have:=K.out.row.2.2 _ q c8
       rwa [DN] at this
      refine (last_c (w':=w6) K.out c8 (by show (ch.take gk++[n]).length<=1000;omega)).mono ?_;rintro e w7 ⟨rfl,f0⟩;have E:zc w6 w7:=f0.below _;clear f0 f4 c8
      go_wp2_with fail
      refine (CW w7 (b4.ext E) GD.out HL.out (.snoc (HC.out.take gk) c6.out)).mono ?_;rintro e w8 ⟨rfl,f1⟩;have a3:zc w6 w8:=E.trans (f1.below _);clear f1 E b4;have L:=K.out.ext a3;have h8:w8.cell? ⟨g,1,none⟩=some (.bool dn):=L.blk.cell (k:=1) rfl;have i3:w8.frozen? ⟨g,1,none⟩=false:=L.blk.frozen 1
      have D:StepPost w X Y g m ⟨ch,dn,st⟩ (.returned (.tuple #[])) (w8.setCell ⟨g,1,none⟩ (.bool (AR m (ch.take gk++[n])))):=by
       refine ⟨rfl,gr',cap',pt++[q],?_,(g7.out.ext_r a3).tr (chg_setg _ K.out.xg 1 _)⟩;have h1:=L.done (AR m (ch.take gk++[n]))
       have h2:stepC m ch=some (ch.take gk++[n]):=by
        have h3:=V.out.se;dsimp only at h3;rw [<-h3];unfold srch;rw [aft_of b6.out Q HN.out hZ.out.2 (by have:=b7.out;omega) d9.out.symm]
       show Av _ X Y g gr' cap' m (RS.one m ⟨ch,dn,st⟩) _;unfold RS.one;dsimp only;rw [h2];exact h1
      have a0:=zh D;clear D L
      go_wp2_with fail
      try rw [Exit.noGoto_ret]
      refine Eu (results_none rfl _ _ _) rfl ?_;exact a0.out
   ·have i6:i=l.length:=by omega
    subst i6;have d4:Hid (aft m (ch.take gk) b=none):=aft_none b6.out (by have:=hZ.out.2;rwa [DN] at this);have d:=V.out.rt.ext J;have O:wr.cell? ⟨g,0,none⟩=some (.slice (some ⟨gr,0,none⟩) pt.length cap):=d.blk.cell (k:=0) rfl;have h6:wr.cell? ⟨g,1,none⟩=some (.bool dn):=d.blk.cell (k:=1) rfl;have hf:=fun k=>d.blk.frozen k
    have r:pt.length=gk+1:=by have:=d.row.2.1;dsimp only at this;omega
    have j4:=AN d.row.1;have o:=zh d;clear d;have e0:=zh r;have d5:=zh (V.out.chg.ext_r J);clear hZ hz
    cases gk with
    | zero=>
     have a7:((pt.length:Int)==1)=true:=by rw [beq_iff_eq];omega
     have D:StepPost w X Y g m ⟨ch,dn,st⟩ (.returned (.tuple #[])) (wr.setCell ⟨g,1,none⟩ (.bool true)):=by
      refine ⟨rfl,gr,cap,pt,?_,d5.out.tr (chg_setg _ o.out.xg 1 _)⟩;have h1:=o.out.done true
      have h2:stepC m ch=none:=by
       have h3:=V.out.se;dsimp only at h3;rw [<-h3];exact srch_zero d4.out
      show Av _ X Y g gr cap m (RS.one m ⟨ch,dn,st⟩) _;unfold RS.one;dsimp only;rw [h2];exact h1
     have a0:=zh D;clear D r
     go_wp2_with fail
     try rw [Exit.noGoto_ret]
     refine Eu (results_none rfl _ _ _) rfl ?_;exact a0.out
    | succ j=>
     have a7:((pt.length:Int)==1)=false:=by rw [DP];omega
     have a8:=a4.out.ext J;obtain ⟨us,f,u,t,vc,vp,gu,_,h2⟩:=a8;obtain ⟨_,_,_,_,_,_,r6,_,_⟩:=h2.rules;have e9:=h2.ch;clear h2;obtain ⟨Ac,cc,rfl,h9,f5⟩:=e9;obtain ⟨bc,oc,rfl,_,a6⟩:=Ae f5 (k:=j) (by omega) (by omega);rw [List.getElem_take] at a6;obtain ⟨N,hN⟩:=EH ((ch.take (j+1)).length);rw [<-hN] at h9 r6;rw [f3] at hN;obtain ⟨cj,a1⟩:=EH (ch[j]);rw [<-a1] at a6;have g8:=zh a1;have rj:=zc.rule a6;have k7:(0:Int)<=(j:Int):=by omega
     have k8:(j:Int)<(N:Int):=by omega
     have k9:IntKind.i64.wrap ((N:Int) - 1)=(j:Int):=by rw [DY];omega
     have k5:IntKind.i64.wrap ((pt.length:Int) - 1)=(N:Int):=by rw [DY];omega
     have j3:wrap64 ((pt.length:Int) - 1)=(N:Int):=by rw [IntWalk.wrap64_in _ (by omega)];omega
     have j9:(0:Int)<=(N:Int):=by omega
     have k3:(N:Int)<=(pt.length:Int):=by omega
     have k4:(N:Int)<=(cap:Int):=by omega
     have l0:=zc.refl wr;have d8:=zh hN;clear a6 f5 a1 r hN
     go_wp2_with fail
     go_quiet (fail)
     generalize f7:wr.drewN nq=w7;have E:zc wr w7:=by rw [<-f7];exact (zc.refl wr).drewN _
     have e8:w7.cell? ⟨g,0,none⟩=some (.slice (some ⟨gr,0,none⟩) pt.length cap):=E.cell O;have f2:w7.frozen? ⟨g,0,none⟩=false:=(Below.frozen E (p:=⟨g,0,none⟩) (zp O)).trans (hf 0);clear f7 O hf h6
     go_wp2_with fail
     go_still_tail 14,(by kernel_rfl)
     change wpList _ _ _ _ _ w7.drew;have a3:zc wr w7.drew:=E.drew;have h8:w7.drew.cell? ⟨g,0,none⟩=some (.slice (some ⟨gr,0,none⟩) pt.length cap):=e8;have i3:w7.drew.frozen? ⟨g,0,none⟩=false:=f2;generalize w7.drew=w8 at*;clear e8 f2 E
     go_wp2_with fail
     go_roundg j
     case measure=>omega
     case rel=>
      refine ⟨cj,pt.take (j+1),rfl,by omega,?_,?_,?_⟩
      ·have h1:=(o.out.ext a3).pop (k:=j) (by show j<=(ch.take (j+1)).length;omega);dsimp only at h1;rw [List.take_take,Nat.min_eq_left (by omega),<-d8.out] at h1;rw [<-d8.out];exact h1
      ·exact (d5.out.ext_r a3).tr (chg_setg _ o.out.xg 0 _)
      ·have h3:=V.out.se;dsimp only at h3⊢;rw [<-h3,srch_back d4.out,g8.out,DB,DA (by omega),Eh]
end
end Go.Proofs.YtcnaogdgjkpkmaaGreatDoor
