import Derived.Test.YtnmkmhpgnpojbaaGreatDoorWXt
set_option linter.unusedVariables false
set_option linter.unusedSimpArgs false
set_option maxRecDepth 100000
set_option maxHeartbeats 16000000
namespace Go.Proofs.YtnmkmhpgnpojbaaGreatDoor
variable {d x:Int} {ch l:List Int} {fs:List Value} {f i n t:Nat} {o:Obj} {u vF:Value} {W0 w2:World}
section
open Go.RowKit
theorem find_at {p:Nat->Bool} {c:Nat} (I:i<n) (hp:p (c+i)=true) (E:∀j,j<i->p (c+j)=false):((List.range n).map (c+·)).find? p=some (c+i):=by
 have h:List.range n=List.range i++([i]++(List.range (n - i - 1)).map (i+1+·)):=by
  have z:n=(i+1)+(n - i - 1):=by omega
  conv=>lhs;rw [z,List.range_add,List.range_succ,List.append_assoc]
 rw [h,Ei,List.find?_append]
 have h0:((List.range i).map (c+·)).find? p=none:=by
  rw [List.find?_eq_none];intro x G;obtain ⟨j,D,rfl⟩:=Er.1 G;rw [E j (Es.1 D)];simp
 rw [h0];simp [hp]
theorem find_no {p:Nat->Bool} {c:Nat} (D:∀j,j<n->p (c+j)=false):((List.range n).map (c+·)).find? p=none:=by
 rw [List.find?_eq_none];intro x E;obtain ⟨j,z,rfl⟩:=Er.1 E;rw [D j (Es.1 z)];simp
theorem cutT_at {m:MZ} (h0:zO m ch<=t) (D:t<m.tasks.length) (hp:offB m ch t=true) (z:∀j,zO m ch<=j->j<t->offB m ch j=false):cutT m ch=some t:=by
 unfold cutT;have:=find_at (p:=offB m ch) (c:=zO m ch) (n:=m.tasks.length - zO m ch) (i:=t - zO m ch) (by omega) (by rw [show zO m ch+(t - zO m ch)=t from by omega];exact hp) (fun j E=>z _ (by omega) (by omega));rw [this,show zO m ch+(t - zO m ch)=t from by omega]
theorem cutT_no {m:MZ} (z:∀j,zO m ch<=j->j<m.tasks.length->offB m ch j=false):cutT m ch=none:=by
 unfold cutT;exact find_no fun j D=>z _ (by omega) (by omega)
theorem proveP_end {m:MZ} {k:Nat} (h:m.tasks.length<=zO m ch):zm m (f+1) ch k=(51,.zero,k):=by
 conv=>lhs;unfold zm
 rw [if_pos h]
theorem proveP_many {m:MZ} {k:Nat} (h:¬ m.tasks.length<=zO m ch) (z:3000<k+1):zm m (f+1) ch k=(53,.zero,k+1):=by
 conv=>lhs;unfold zm
 rw [if_neg h,if_pos z]
theorem proveP_cut {m:MZ} {k:Nat} (h:¬ m.tasks.length<=zO m ch) (D:¬ 3000<k+1) (z:cutT m ch=some t):zm m (f+1) ch k=(0,.node t (By m ch t) [],k+1):=by
 conv=>lhs;unfold zm
 rw [if_neg h,if_neg D,z]
theorem proveP_kids {m:MZ} {k:Nat} (h:¬ m.tasks.length<=zO m ch) (D:¬ 3000<k+1) (z:cutT m ch=none):zm m (f+1) ch k=if (zI (fun n k=>zm m f (ch++[n]) k) (zQ m ch) (k+1) []).1=0 then (0,.node (zO m ch) [] (zI (fun n k=>zm m f (ch++[n]) k) (zQ m ch) (k+1) []).2.1,(zI (fun n k=>zm m f (ch++[n]) k) (zQ m ch) (k+1) []).2.2) else ((zI (fun n k=>zm m f (ch++[n]) k) (zQ m ch) (k+1) []).1,.zero,(zI (fun n k=>zm m f (ch++[n]) k) (zQ m ch) (k+1) []).2.2):=by
 conv=>lhs;unfold zm
 rw [if_neg h,if_neg D,z]
theorem CO {f:Int->Nat->Int×PT×Nat} {n:Int} {k:Nat} {acc:List PT} (h:(f n k).1=0):zI f (n :: l) k acc=zI f l (f n k).2.2 (acc++[(f n k).2.1]):=by
 conv=>lhs;unfold zI
 rw [if_pos h]
theorem kidsR_stop {f:Int->Nat->Int×PT×Nat} {n:Int} {k:Nat} {acc:List PT} (h:(f n k).1≠0):zI f (n :: l) k acc=((f n k).1,[],(f n k).2.2):=by
 conv=>lhs;unfold zI
 rw [if_neg h]
theorem Bn.bound {w:World} {ok:Nat->Prop} {v:Value} {p:PT} (h:Bn w ok v p):Bn w (fun b=>ok b/\b<w.heap.size) v p:=by
 induction h with
 | mk z D _ ih=>exact .mk z.bound (D.bound (by decide)) ih
theorem own_chg {W W':World} {X:Nat->Prop} {B sz:Nat} {e:TypeId} {v:Value} {xs:List Value} (h:W.ownsRow B e sz v n xs) (I:zi X W W') (J:∀b,B<=b->¬ X b):W'.ownsRow B e sz v n xs:=by
 refine ⟨h.1,?_⟩;rcases h.2 with h | ⟨g,cap,cur,E,z,D,G⟩
 ·exact .inl h
 ·exact .inr ⟨g,cap,cur,E,z,(I.block g (za D) (J g z)).trans D,G⟩
structure Aj (W:World) (B:Nat) (v:Value) (acc:List PT) (cs:List Value):Prop where
 own:W.ownsRow B 41 3 v acc.length cs
 each:∀(i:Nat) (hi:i<acc.length),Bn W (fun b=>B<=b/\v.ownBlock≠some b) (.agg #[cs.getD (i*3) undef,cs.getD (i*3+1) undef,cs.getD (i*3+2) undef]) acc[i]
section
variable {W W':World} {B lo:Nat} {v v':Value} {acc:List PT} {cs:List Value} {p:PT} {a b c:Value} {X:Nat->Prop}
theorem Aj.nil (W:World) (B:Nat):Aj W B (.slice none 0 0) [] []:=⟨World.ownsRow_nil _ _ _ _,fun i z=>absurd z (by simp)⟩
theorem Aj.chg (h:Aj W B v acc cs) (D:zi X W W') (E:∀b,B<=b->¬ X b):Aj W' B v acc cs:=
 ⟨own_chg h.own D E,fun i I=>(h.each i I).keepW (fun b G z=>D.block b z (E b G.1)) (fun _ h=>h)⟩
theorem Aj.lt (h:Aj W B v acc cs) {k:Nat} (z:v.ownBlock=some k):B<=k/\k<W.heap.size:=by
 rcases h.own.2 with ⟨rfl,-⟩ | ⟨g,cap,cur,rfl,D,E,-⟩
 ·cases z
 ·have:g=k:=by simpa [Value.ownBlock] using z
  subst this;exact ⟨D,za E⟩
theorem getD_left {l l2:List Value} (h:i<l.length):(l++l2).getD i undef=l.getD i undef:=by
 rw [Dp,Dp,Dw h]
theorem Aj.app (h:Aj W B v acc cs) (hp:Bn W (fun b=>lo<=b) (.agg #[a,b,c]) p) (G:∀k,v.ownBlock=some k->k<lo) (hB:B<=lo) (U:W'.ownsRow B 41 3 v' (acc.length+1) (cs++[a,b,c])) (K:W.grownBy W' v.ownBlock)
  (V:v'.ownBlock=v.ownBlock\/v'.ownBlock=some W.heap.size):Aj W' B v' (acc++[p]) (cs++[a,b,c]):=by
 have D:cs.length=acc.length*3:=h.own.1
 have I:∀k,k<W.heap.size->v.ownBlock≠some k->v'.ownBlock≠some k:=fun k z Q=>by
  rcases V with h2 | h2
  ·rw [h2];exact Q
  ·rw [h2];intro e;injection e with e;omega
 refine ⟨by rw [Dz];exact U,fun i M=>?_⟩;by_cases O:i<acc.length
 ·rw [getD_left (by omega),getD_left (by omega),getD_left (by omega),List.getElem_append_left O];exact (h.each i O).bound.keepW (fun k z E=>K.block k E (fun e=>z.1.2 e.symm)) (fun k z=>⟨z.1.1,I k z.2 z.1.2⟩)
 ·have J:i=acc.length:=by rw [Dz,DR] at M;omega
  subst J;have e0:(cs++[a,b,c]).getD (acc.length*3) undef=a:=by rw [Dp,Dx (by omega),D,Nat.sub_self];rfl
  have e1:(cs++[a,b,c]).getD (acc.length*3+1) undef=b:=by rw [Dp,Dx (by omega),D,Nat.add_sub_cancel_left];rfl
  have e2:(cs++[a,b,c]).getD (acc.length*3+2) undef=c:=by rw [Dp,Dx (by omega),D,Nat.add_sub_cancel_left];rfl
  rw [e0,e1,e2];have:(acc++[p])[acc.length]'M=p:=by simp
  rw [this];exact hp.bound.keepW (fun k z E=>K.block k E (fun e=>by have:=G k e.symm;omega)) (fun k z=>⟨by omega,I k z.2 (fun e=>by have:=G k e;omega)⟩)
theorem Aj.kids (h:Aj W B v acc cs) (t:Int):Bn W (fun b=>B<=b) (.agg #[.int .i64 t,.slice none 0 0,v]) (.node t [] acc):=
 .mk (cs:=cs) (zk.nil _ _) (Aw.of_own h.own) (fun i z=>(h.each i z).keepW (fun _ _ _=>rfl) (fun _ h=>h.1))
end
theorem zi.wide {X X':Nat->Prop} {a b:World} (h:zi X a b) (z:∀k,X k->X' k):zi X' a b:=⟨h.os,h.tape,h.output,h.size,fun b D E=>h.block b D fun e=>E (z b e)⟩
theorem zi.set {X:Nat->Prop} {a b:World} (h:zi X a b) (g k:Nat) (v:Value) (D:X g):zi X a (b.setCell ⟨g,k,none⟩ v):=
 ⟨h.os,h.tape,h.output,by simpa using h.size,fun i E z=>(DA b ⟨g,k,none⟩ v i (fun e=>z (by rw [e];exact D))).trans (h.block i E z)⟩
theorem zi.grown {X:Nat->Prop} {a b c:World} {r:Option Nat} (h:zi X a b) (z:b.grownBy c r) (G:∀k,r=some k->k<a.heap.size->X k):zi X a c:=
 ⟨z.os.trans h.os,z.tape.trans h.tape,z.output.trans h.output,Dt h.size z.size,fun i D E=>(z.block i (DT D h.size) (fun e=>E (G i e.symm D))).trans (h.block i D E)⟩
theorem zi.blk {X:Nat->Prop} {a b:World} {g:Nat} {t:TypeId} {cs:Array Value} (h:zi X a b) (z:ze a g t cs) (D:¬ X g):ze b g t cs:=(h.block g (za z) D).trans z
theorem zi.cellk {X:Nat->Prop} {a b:World} {p:Addr} {v:Value} (h:zi X a b) (z:a.cell? p=some v) (D:¬ X p.block):b.cell? p=some v:=(Cz (h.block _ (zn z) D)).trans z
theorem zb.cellB {w W:World} {g:Nat} {t:TypeId} {cs:Array Value} (z:zb w W) (h:ze w g t cs):ze W g t cs:=h.ext z
theorem prove_err {F:Int->Nat->Int×PT×Nat} {n:Int} {L:List Int} {k k0:Nat} {acc:List PT} (h:(F n k).1≠0) (z:zI F L k0 []=zI F (n :: l) k acc) {a:Int×PT×Nat} {b:PT×Nat}:(if (zI F L k0 []).1=0 then a else ((zI F L k0 []).1,b)).1=(F n k).1:=by
 rw [z,kidsR_stop h,if_neg h]
theorem Cj {W:World} {g:Nat} {a b c:Value} (z:ze W g 41 #[a,b,c]):Aw W (fun _=>True) 3 (.slice (some ⟨g,0,none⟩) 1 1) 1 [a,b,c]:=
 ⟨_,1,rfl,Dq _,by simp,fun _=>⟨g,0,rfl,trivial,fun j u D=>by rw [Nat.zero_add];exact z.cell (by simpa using D)⟩⟩
end
section
open Go.RowKit
attribute [local go_sem ↓] Go.wp_at_zero Go.wp_at_succ
def dF (F:List (Int×Int)) (i:Nat):Value:=.int .i64 ((F.lookup (i:Int)).getD (-1))
def dK (k:Nat) (F:List (Int×Int)) (i:Nat):Value:=if i<k then dF F i else .int .i64 0
structure DI (w1 wr:World) (go N k:Nat) (F:List (Int×Int)) (T:List Int) (v:Value):Prop where
 ext:zb w1 wr
 lo:w1.heap.size<=go
 row:wr.rowIs go 3 N (dK k F)
 own:zt wr (go+1) v T
theorem lookup_snoc {F:List (Int×Int)} {y:Int}:(F++[(x,d)]).lookup y=match F.lookup y with | some e=>some e | none=>if y=x then some d else none:=by
 induction F with
 | nil=>
  rw [List.nil_append,List.lookup_cons];by_cases h:y=x
  ·rw [if_pos h,beq_iff_eq.2 h];rfl
  ·rw [if_neg h,DE.2 h];rfl
 | cons a F ih=>
  obtain ⟨z,e⟩:=a;rw [List.cons_append,List.lookup_cons,List.lookup_cons];by_cases h:y=z
  ·rw [beq_iff_eq.2 h]
  ·rw [DE.2 h];exact ih
section
variable {w1 wr w':World} {go N k:Nat} {F:List (Int×Int)} {T:List Int} {v:Value}
theorem DI.more (h:DI w1 wr go N k F T v) (z:zb wr w'):DI w1 w' go N k F T v:=⟨h.ext.trans z,h.lo,h.row.of_block (z.block _ h.row.lt),h.own.ext z⟩
theorem DI.lay (h:DI w1 wr go N k F T v) (E:F.lookup (k:Int)=none):DI w1 (wr.setCell ⟨go,k,none⟩ (.int .i64 (-1))) go N (k+1) F T v:=
 ⟨h.ext.setCell (p:=⟨go,k,none⟩) h.lo _,h.lo,(h.row.set k (.int .i64 (-1))).congr fun j _=>by
  by_cases D:j=k
  ·subst D;unfold dK dF;rw [if_pos rfl,if_pos (by omega),E];rfl
  ·unfold dK;rw [if_neg D];by_cases z:j<k
   ·rw [if_pos z,if_pos (by omega)]
   ·rw [if_neg z,if_neg (by omega)],ownsRow_setCell_below h.own (by show go<go+1;omega) _⟩
theorem DI.put (h:DI w1 wr go N k F T v) (h0:0<=x) (E:x<k) (D:F.lookup x=none):DI w1 (wr.setCell ⟨go,x.toNat,none⟩ (.int .i64 d)) go N k (F++[(x,d)]) T v:=
 ⟨h.ext.setCell (p:=⟨go,x.toNat,none⟩) h.lo _,h.lo,(h.row.set x.toNat (.int .i64 d)).congr fun j _=>by
  by_cases z:j=x.toNat
  ·subst z;unfold dK dF;rw [if_pos rfl,if_pos (by omega),lookup_snoc,Int.toNat_of_nonneg h0,D];simp
  ·unfold dK dF;rw [if_neg z,lookup_snoc]
   split
   ·cases G:F.lookup (j:Int) with
    | some e=>rfl
    | none=>simp only [];rw [if_neg (by omega)]
   ·rfl,ownsRow_setCell_below h.own (by show go<go+1;omega) _⟩
theorem DI.app {v':Value} {T':List Int} (h:DI w1 wr go N k F T v) (E:zt w' (go+1) v' T') (z:Hid (wr.grownBy w' v.ownBlock)):DI w1 w' go N k F T' v':=
 ⟨Ab h.ext z h.ext.size (fun b D=>by have:=AF h.own D;have:=h.lo;omega),h.lo,h.row.of_block (z.out.block _ h.row.lt (fun e=>by have:=AF h.own e.symm;omega)),E⟩
theorem DI.cell (h:DI w1 wr go N k F T v) {j:Nat} (z:j<N):wr.cell? ⟨go,j,none⟩=some (dK k F j)/\wr.frozen? ⟨go,j,none⟩=false:=⟨h.row.cell z,h.row.frozen _⟩
theorem DI.bound (h:DI w1 wr go N k F T v):go+1<=wr.heap.size:=h.row.lt
end
structure CPL (w wr:World) (g L:Nat) (ps:List (List Int)):Prop where
 ext:zb w wr
 lo:L<=g
 row:∃vs:List Value,ze wr g 23 vs.toArray/\vs.length=ps.length/\∀(i:Nat) x,ps[i]?=some x->∃u,vs[i]?=some u/\zk wr (fun b=>b≠g/\L<=b) u x
section
variable {w wr w':World} {g L:Nat} {ps:List (List Int)}
theorem CPL.lt (h:CPL w wr g L ps):g<wr.heap.size:=by obtain ⟨vs,z,-⟩:=h.row;exact za z
theorem CPL.keep {X:Nat->Prop} (h:CPL w wr g L ps) (E:zi X wr w') (G:∀b,L<=b->¬ X b) (I:zb w w'):CPL w w' g L ps:=by
 obtain ⟨vs,z,K,he⟩:=h.row;exact ⟨I,h.lo,vs,E.blk z (G g h.lo),K,fun i x O=>by obtain ⟨u,M,J⟩:=he i x O;exact ⟨u,M,J.keep fun b z D=>E.block b D (G b z.2)⟩⟩
theorem CPL.more (h:CPL w wr g L ps) (z:zb wr w'):CPL w w' g L ps:=h.keep (zi.of_ext (X:=fun _=>False) z) (fun _ _ h=>h) (h.ext.trans z)
theorem CPL.at_ (h:CPL w wr g L ps) {k:Nat} (E:k<ps.length):∃u,wr.cell? ⟨g,k,none⟩=some u/\wr.frozen? ⟨g,k,none⟩=false/\zk wr (fun b=>b≠g/\L<=b) u ps[k]:=by
 obtain ⟨vs,z,I,he⟩:=h.row;obtain ⟨u,G,D⟩:=he k _ (Do E);exact ⟨u,z.cell (by simpa using G),z.frozen k,D⟩
theorem CPL.intss (h:CPL w wr g L ps) (c:Nat) (E:ps.length<=c):zU wr (fun b=>L<=b) (.slice (some ⟨g,0,none⟩) ps.length c) ps:=by
 obtain ⟨vs,D,J,he⟩:=h.row;refine ⟨vs,⟨_,c,rfl,E,by omega,fun _=>⟨g,0,rfl,h.lo,fun j u z=>?_⟩⟩,fun i x I=>by obtain ⟨u,z,G⟩:=he i x I;exact ⟨u,z,G.weaken fun _ h=>h.2⟩⟩;rw [Nat.zero_add];exact D.cell (by simpa using z)
theorem CPL.set (h:CPL w wr g L ps) (k:Nat) {u:Value} {x:List Int} (J:w.heap.size<=g) (O:zk wr (fun b=>b≠g/\L<=b) u x):CPL w (wr.setCell ⟨g,k,none⟩ u) g L (ps.set k x):=by
 obtain ⟨vs,E,K,he⟩:=h.row;have I:∀{v:Value} {l:List Int},zk wr (fun b=>b≠g/\L<=b) v l->zk (wr.setCell ⟨g,k,none⟩ u) (fun b=>b≠g/\L<=b) v l:=fun D=>D.keep fun b E _=>DA wr ⟨g,k,none⟩ u b E.1
 refine ⟨h.ext.setCell (p:=⟨g,k,none⟩) J _,h.lo,vs.set k u,?_,by simp [K],fun i y z=>?_⟩
 ·have:=E.set (k:=k) u
  rwa [List.setIfInBounds_toArray] at this
 ·rw [List.getElem?_set] at z⊢;by_cases D:k=i
  ·subst D;rw [if_pos rfl] at z⊢
   split at z
   ·rename_i M
    rw [if_pos (by omega)];injection z with z;subst z;exact ⟨u,rfl,I O⟩
   ·cases z
  ·rw [if_neg D] at z⊢;obtain ⟨v,Q,G⟩:=he i y z;exact ⟨v,Q,I G⟩
end
def exA:Array Value:=#[.bool true,.bool true,.bool true,.bool true,.bool false,.bool true,.bool true,.bool true,.bool true]
theorem fin_wp {P:Program} {c:Code} {Q:Exit->Act->World->Prop} {a:Act} (w:World) (os:List Obj) (h:∀W,zb w W->(∀(i:Nat) o,os[i]?=some o->W.heap[w.heap.size+i]?=some o)->c.wp P Q a W):c.wp P Q a (os.foldl World.alloc w):=h _ (allocs_ext os w) (fun i o z=>allocs_at os w i o z)
structure FI (W0:World) (g:Nat) (u t:Value) (w:World) (k:Nat) (vF:Value) (fs:List Value):Prop where
 ch:zi (·=g) W0 w
 mz:ze w g 32 #[.int .i64 3,.int .i64 3,.int .i64 1,vF,u,t]
 F:w.ownsRow W0.heap.size 29 1 vF k fs
 fd:∀j,j<k->∃h,fs[j]?=some (.slice (some ⟨h,0,none⟩) 9 9)/\W0.heap.size<=h/\ze w h 4 exA
theorem FI.mid {w:World} {g k:Nat} {t:Value} (h:FI W0 g u t w k vF fs) (z:zb w ((w.alloc (.cells exA 4)).alloc o)) (D:((w.alloc (.cells exA 4)).alloc o).grownBy w2 vF.ownBlock):ze w2 g 32 #[.int .i64 3,.int .i64 3,.int .i64 1,vF,u,t]:=
 (D.block g (by have:=za h.mz;simp;omega) (fun e=>zd h.F h.mz (by decide) e.symm)).trans (h.mz.ext z)
theorem FI.add {w:World} {g k:Nat} {t v':Value} (h:FI W0 g u t w k vF fs) (J:zb w ((w.alloc (.cells exA 4)).alloc o)) (M:w2.ownsRow W0.heap.size 29 1 v' (k+1) (fs++[.slice (some ⟨w.heap.size,0,none⟩) 9 9])) (I:((w.alloc (.cells exA 4)).alloc o).grownBy w2 vF.ownBlock):
  FI W0 g u t (w2.setCell ⟨g,3,none⟩ v') (k+1) v' (fs++[.slice (some ⟨w.heap.size,0,none⟩) 9 9]):=by
 have hb:ze ((w.alloc (.cells exA 4)).alloc o) w.heap.size 4 exA:=(ze.new w exA 4 rfl).ext ((zb.refl _).alloc _);have E:∀x ty cs,ze w x ty cs->ty≠29->ze w2 x ty cs:=fun x ty cs z ht=>(I.block x (by have:=za z;simp;omega) (fun e=>zd h.F z (Ne.symm ht) e.symm)).trans (z.ext J)
 have G:ze w2 w.heap.size 4 exA:=(I.block _ (by simp;omega) (fun e=>by have:=(World.ownsRow.lt h.F _ e.symm).2;omega)).trans hb;have D:=E g _ _ h.mz (by decide);have O:∀x ty cs,ze w2 x ty cs->ty≠32->ze (w2.setCell ⟨g,3,none⟩ v') x ty cs:=fun x ty cs z ht=>z.setOther (a:=⟨g,3,none⟩) (ze.ne_ z D ht) _
 have K:fs.length=k*1:=h.F.1;refine ⟨((h.ch.tr (BC J)).grown I (fun x z a1=>by have:=(World.ownsRow.lt h.F _ z).1;omega)).set g 3 v' rfl,D.set (k:=3) v',Ai M (fun x z=>DA w2 ⟨g,3,none⟩ _ x (fun e=>zd M D (by decide) (by rw [z];exact congrArg some e))),fun j hj=>?_⟩;rcases DO j k with h1 | h1
 ·obtain ⟨x,Q,U,V⟩:=h.fd j h1;exact ⟨x,by rw [Dw (by omega)];exact Q,U,O _ _ _ (E _ _ _ V (by decide)) (by decide)⟩
 ·have:j=k:=by omega
  subst this;exact ⟨w.heap.size,by rw [Dx (by omega),show j - fs.length=0 by omega];rfl,h.ch.size,O _ _ _ G (by decide)⟩
theorem Av (a b:Int) (w:World):Calls Tryz.prog 74 #[.int .i64 a,.int .i64 b] w fun e w'=>∃v,e=.returned v/\zb w w'/\zF w' (fun x=>w.heap.size<=x) v (exM a b):=by
 have d4:∀w,(Instr.makeSlice 29 (.int .i64 9) (.int .i64 9)).run Tryz.prog w=.ok (.slice (some ⟨w.heap.size,0,none⟩) 9 9) (w.alloc (.cells #[.bool false,.bool false,.bool false,.bool false,.bool false,.bool false,.bool false,.bool false,.bool false] 4)):=fun _=>by kernel_rfl
 go_enter Tryz.func74,Tryz.ntmps74
 go_wp2_with fail
 refine fin_wp w [_,_,_,_,_,_,_,_] fun W0 a3 J=>?_
 have b0:W0.heap[w.heap.size]?=_:=J 0 _ rfl;have b1:=J 1 _ rfl;have b2:=J 2 _ rfl;have b3:=J 3 _ rfl;have b4:=J 4 _ rfl;have b5:=J 5 _ rfl;have b6:=J 6 _ rfl;have b7:=J 7 _ rfl;clear J d4;have a8:=zh a3;obtain ⟨H,hH⟩:=Ez w.heap.size;rw [<-hH] at b0 b1 b2 b3 b4 b5 b6 b7⊢;have HH:=zh hH;have a7:Hid (ze W0 H 32 #[.int .i64 0,.int .i64 0,.int .i64 0,.slice none 0 0,.slice none 0 0,.slice none 0 0]):=b0;have HI:Hid (∀(k:Nat) (x:Int),H<=k->W0.heap[k]?=some (.cells #[.int .i64 x] 3 (0,0))->zk W0 (fun b=>H<=b/\b≠H+7/\b≠H) (.slice (some ⟨k,0,none⟩) 1 1) [x]):=fun k x hk z=>⟨_,_,rfl,Dq _,AI.block (cs:=#[.int .i64 x]) z ⟨hk,(fun e=>by subst e;rw [b7] at z;cases z),fun e=>by subst e;rw [b0] at z;cases z⟩ rfl⟩
 have a2:Hid (AR W0 (fun b=>H<=b/\b≠H+7/\b≠H) (.slice (some ⟨H+1,0,none⟩) 9 9) (List.replicate 9 false)):=⟨_,_,rfl,Dq _,AI.block (cs:=#[.bool false,.bool false,.bool false,.bool false,.bool false,.bool false,.bool false,.bool false,.bool false]) b1 (by omega) rfl⟩
 have a1:Hid (Bf W0 (fun b=>H<=b/\b≠H+7/\b≠H) (.slice (some ⟨H+6,0,none⟩) 2 2) [([0],[2]),([a],[b])]):=by
  refine ⟨[.string ⟨#[97]⟩,.slice (some ⟨H+2,0,none⟩) 1 1,.slice (some ⟨H+3,0,none⟩) 1 1,.string ⟨#[98]⟩,.slice (some ⟨H+4,0,none⟩) 1 1,.slice (some ⟨H+5,0,none⟩) 1 1],⟨_,_,rfl,Dq _,rfl,fun _=>⟨H+6,0,rfl,by omega,fun j u hu=>by rw [Nat.zero_add];exact ze.cell (cs:=#[.string ⟨#[97]⟩,.slice (some ⟨H+2,0,none⟩) 1 1,.slice (some ⟨H+3,0,none⟩) 1 1,.string ⟨#[98]⟩,.slice (some ⟨H+4,0,none⟩) 1 1,.slice (some ⟨H+5,0,none⟩) 1 1]) b6 (by simpa using hu)⟩⟩,fun i x I=>?_⟩
  match i,I with
  | 0,I=>
   have:(([0],[2]):List Int×List Int)=x:=by simpa using I
   subst this;exact ⟨_,_,_,rfl,rfl,rfl,HI.out _ _ (by omega) b2,HI.out _ _ (by omega) b3⟩
  | 1,I=>
   have:(([a],[b]):List Int×List Int)=x:=by simpa using I
   subst this;exact ⟨_,_,_,rfl,rfl,rfl,HI.out _ _ (by omega) b4,HI.out _ _ (by omega) b5⟩
 have V:Hid (FI W0 (H+7) (.slice (some ⟨H+1,0,none⟩) 9 9) (.slice (some ⟨H+6,0,none⟩) 2 2) W0 0 (.slice none 0 0) []):=⟨zi.refl _ _,b7,World.ownsRow_nil _ _ _ _,fun j hj=>by omega⟩;have Q:Hid (H+7<W0.heap.size):=za b7;clear b0 b1 b2 b3 b4 b5 b6 b7 a3 HI hH;go_loopw [6] (fun i wr=>∃(k:Nat) (vF:Value) (fs:List Value),i=.int .i64 k/\k<=2/\Hid (FI W0 (H+7) (.slice (some ⟨H+1,0,none⟩) 9 9) (.slice (some ⟨H+6,0,none⟩) 2 2) wr k vF fs)) (fun i _=>2 - (intOf i).toNat)
 case atStart=>exact ⟨0,_,_,rfl,DF _,V.out⟩
 clear V
 case round=>
  obtain ⟨k,vF,fs,rfl,hk,E⟩:=hrel;obtain ⟨wk,rfl⟩:∃wk:World,wk=wr:=⟨_,rfl⟩;have m0:=E.out.mz.cell (k:=0) rfl;have m1:=E.out.mz.cell (k:=1) rfl;have m2:=E.out.mz.cell (k:=2) rfl;have m3:=E.out.mz.cell (k:=3) rfl;have m4:=E.out.mz.cell (k:=4) rfl;have m5:=E.out.mz.cell (k:=5) rfl;have e4:W0.heap.size<=wk.heap.size:=E.out.ch.size;by_cases a5:k<2
  ·have e0:(k:Int)<2:=by omega
   have a4:zb wk ((wk.alloc (.cells exA 4)).alloc (.cells #[.slice (some ⟨wk.heap.size,0,none⟩) 9 9] 29)):=((zb.refl _).alloc _).alloc _;have O:=zh a4;have M:Aw ((wk.alloc (.cells exA 4)).alloc (.cells #[.slice (some ⟨wk.heap.size,0,none⟩) 9 9] 29)) (fun _=>True) 1 (.slice (some ⟨wk.heap.size+1,0,none⟩) 1 1) 1 [.slice (some ⟨wk.heap.size,0,none⟩) 9 9]:=⟨_,_,rfl,Dq _,AI.block (cs:=#[.slice (some ⟨wk.heap.size,0,none⟩) 9 9]) (ze.new _ _ _ (by simp)) trivial rfl⟩;have K:=zh M;clear a4 M
   go_wp2_with (at_builtin;refine wpList_append_row rfl _ _ _ eBools rfl W0.heap.size k 1 fs [.slice (some ⟨wk.heap.size,0,none⟩) 9 9] vF _ rfl rfl ((E.out.F.alloc _).alloc _) K.out (by simp [Value.oneCell']) (by simp;omega) (by unfold maxLen;omega) (by omega) ?_)
   intro v' w2 ho hg d6;have U:=E.out.mid O.out hg;have b8:=zh (E.out.add O.out ho hg);have n3:=U.cell (k:=3) rfl;have fz:=U.frozen 3;obtain ⟨A',c',e',-,-⟩:=Aw.of_own ho;subst e';clear ho hg d6 U K O m0 m1 m2 m3 m4 m5;go_wp2;go_roundw
   case rel=>exact ⟨k+1,_,_,by go_num,by omega,b8.out⟩
   case measure=>simp [intOf];omega
  ·obtain rfl:k=2:=by omega
   have D:Hid (ze wk H 32 #[.int .i64 0,.int .i64 0,.int .i64 0,.slice none 0 0,.slice none 0 0,.slice none 0 0]):=E.out.ch.blk a7.out (by omega);have z0:=D.out.cell (k:=0) rfl;have z1:=D.out.cell (k:=1) rfl;have z2:=D.out.cell (k:=2) rfl;have z3:=D.out.cell (k:=3) rfl;have z4:=D.out.cell (k:=4) rfl;have z5:=D.out.cell (k:=5) rfl;have fz:∀j,wk.frozen? ⟨H,j,none⟩=false:=fun j=>D.out.frozen j
   obtain ⟨Af,cf,e',-,-⟩:=Aw.of_own E.out.F;subst e'
   have c0:Hid (zF wk (fun b=>H<=b/\b≠H) (.agg #[.int .i64 3,.int .i64 3,.int .i64 1,.slice Af 2 cf,.slice (some ⟨H+1,0,none⟩) 9 9,.slice (some ⟨H+6,0,none⟩) 2 2]) (exM a b)):=by
    have hS:zN (fun b=>H<=b/\b≠H+7/\b≠H) W0 wk:=E.out.ch.same fun b z e=>z.2.1 e
    refine ⟨_,_,_,rfl,⟨fs,(Aw.of_own E.out.F).weaken (fun b z=>by have:=Q.out;omega),fun i x I=>?_⟩,(a2.out.keep hS).weaken (fun b z=>⟨z.1,z.2.2⟩),(a1.out.keep hS).weaken (fun b z=>⟨z.1,z.2.2⟩)⟩
    have hi:i<2/\x=exFree:=by
     match i,I with
     | 0,I=>exact ⟨by omega,by simpa [exM] using I.symm⟩
     | 1,I=>exact ⟨by omega,by simpa [exM] using I.symm⟩
    obtain ⟨h,h1,h2,h3⟩:=E.out.fd i hi.1;rw [hi.2];exact ⟨_,h1,⟨_,_,rfl,Dq _,AI.block (cs:=exA) h3 (by have:=Q.out;omega) rfl⟩⟩
   have a9:Hid (Below H w wk):=by
    have h1:Below H w W0:=by (show Below _ _ _);rw [HH.out];exact a8.out
    have h2:Below H W0 wk:=E.out.ch.below (by have:=Q.out;omega) (fun b z=>by omega);exact h1.trans h2
   clear E a2 a1;go_wp2;refine case_fin (P:=fun W=>bodyPost Tryz.prog Tryz.f74 _ Exit.ret _ W) (g2:=H) ?_ D.out;intro WZ G c7 hk;have y0:=G.cell (k:=0) rfl;have y1:=G.cell (k:=1) rfl;have y2:=G.cell (k:=2) rfl;have y3:=G.cell (k:=3) rfl;have y4:=G.cell (k:=4) rfl;have y5:=G.cell (k:=5) rfl;have hE:zb w WZ:=by have h:=a9.out.trans c7;rw [HH.out] at h;exact h
   exact El (v:=.agg #[.int .i64 3,.int .i64 3,.int .i64 1,.slice Af 2 cf,.slice (some ⟨H+1,0,none⟩) 9 9,.slice (some ⟨H+6,0,none⟩) 2 2]) (by simp [results,Tryz.results74,go_sem,y0,y1,y2,y3,y4,y5]) rfl ⟨_,rfl,hE,(c0.out.keep (fun b z a5=>hk b a5 z.2)).weaken fun b z=>by have:=HH.out;omega⟩
end
section
open Go.RowKit
theorem CN (a b:Int):Lens (exM a b):=⟨by simp [exM],by simp [exM],by simp [exM],fun t ht=>by
 simp only [exM,Ef,Eo,or_false] at ht;rcases ht with rfl | rfl <;> simp⟩
end
section
open Go.RowKit
attribute [local go_sem ↓] Go.wp_at_zero Go.wp_at_succ
theorem Ad.bound {w:World} {X Y:Nat->Prop} {g gr cap:Nat} {m:MZ} {s:RS} {pt:List Nat} (h:Ad w X Y g gr cap m s pt):Ad w (fun k=>X k/\k<w.heap.size) Y g gr cap m s pt:=
 ⟨h.blk,⟨h.xg,za h.blk⟩,⟨h.xr,(h.row.1.lt gr rfl).2⟩,h.ne,h.yg,h.yr,h.row.1,h.row.2.1,fun k p hp=>(h.row.2.2 k p hp).bound.weaken fun b hb=>by
  rcases hb with ⟨hb | hb,z⟩
  ·exact .inl ⟨⟨hb.1,z⟩,hb.2⟩
  ·exact .inr hb⟩
theorem Ad.chg {w w':World} {X Y X':Nat->Prop} {g gr cap:Nat} {m:MZ} {s:RS} {pt:List Nat} (h:Ad w X Y g gr cap m s pt) (D:zi X' w w') (E:∀k,X k\/Y k->¬ X' k):Ad w' X Y g gr cap m s pt:=
 h.same fun b z G=>D.block b z (E b G)
structure RtB (w:World) (X Y:Nat->Prop) (g:Nat) (m:MZ) (s:RS):Prop where
 rt:∃gr cap pt,Ad w X Y g gr cap m s pt
 xb:∀k,X k->k<w.heap.size
 yb:∀k,Y k->k<w.heap.size
 good:zE m
 lens:Lens m
 ch:zr m s.ch
 st:0<=s.steps
section
variable {w w':World} {X Y X':Nat->Prop} {g:Nat} {m:MZ} {s:RS}
theorem RtB.chg (h:RtB w X Y g m s) (z:zi X' w w') (O:∀k,X k\/Y k->¬ X' k):RtB w' X Y g m s:=by
 obtain ⟨⟨gr,cap,pt,Q⟩,E,G,I,J,K,M⟩:=h;exact ⟨⟨gr,cap,pt,Q.chg z O⟩,fun k D=>DT (E k D) z.size,fun k D=>DT (G k D) z.size,I,J,K,M⟩
theorem RtB.ext (h:RtB w X Y g m s) (z:zb w w'):RtB w' X Y g m s:=h.chg (zi.of_ext (X:=fun _=>False) z) (fun _ _ h=>h)
theorem RtB.step (h:RtB w X Y g m s) (n:Nat) (s':RS) (d:Bool) (hd:s'.done=d) (I:RS.run m n s=s') (hn:n<=1000000) (J:s.steps<=3000000000000000000):
  Calls Tryz.prog 38 #[.pointer (some ⟨g,0,none⟩),.int .i64 n] w fun e w'=>e=.returned (.bool d)/\RtB w' (fun k=>X k\/(w.heap.size<=k/\k<w'.heap.size)) Y g m s'/\zi X w w':=by
 obtain ⟨⟨gr,cap,pt,hr⟩,Q,K,M,O,E,U⟩:=h;refine (stepN_calls (X:=fun k=>X k\/w.heap.size<=k) n w (hr.widen fun _ h=>.inl h) M O E hn U J (fun _ h=>.inr h) K).mono ?_;rintro e w' ⟨rfl,gr',cap',pt',D,z⟩;rw [I] at D⊢;refine ⟨by rw [hd],⟨⟨gr',cap',pt',D.bound.widen ?_⟩,?_,?_,M,O,?_,?_⟩,?_⟩
 ·rintro k ⟨hk | hk,G⟩
  ·exact .inl hk
  ·exact .inr ⟨hk,G⟩
 ·rintro k (hk | hk)
  ·exact DT (Q k hk) z.size
  ·exact hk.2
 ·exact fun k hk=>DT (K k hk) z.size
 ·rw [<-I];exact run_isCh n E
 ·have:=run_steps (m:=m) n E;rw [I] at this;omega
 ·exact ⟨z.os,z.tape,z.output,z.size,fun b V hx=>z.block b V (by
   rintro (h | h)
   ·exact hx h
   ·omega)⟩
theorem RtB.fb (h:RtB w X Y g m s):∀k,X k\/Y k->k<w.heap.size:=fun k z=>z.elim (h.xb k) (h.yb k)
theorem RtB.choices (h:RtB w X Y g m s):Calls Tryz.prog 54 #[.pointer (some ⟨g,0,none⟩)] w fun e w'=>∃v',e=.returned v'/\Mk w w' v' s.ch:=by
 obtain ⟨⟨gr,cap,pt,E⟩,G,I,z,J,D,K⟩:=h;exact choices_c w E (by have:=D.len300 z;omega)
theorem RtB.found (h:RtB w X Y g m s):Calls Tryz.prog 39 #[.pointer (some ⟨g,0,none⟩)] w (BZ w m s.ch):=by
 obtain ⟨⟨gr,cap,pt,G⟩,I,J,z,D,E,K⟩:=h;exact found_c w G z D E
end
theorem newB_calls {Y:Nat->Prop} {v:Value} {m:MZ} (w:World) (hm:zF w Y v m) (I:Lens m) (z:∀b,Y b->b<w.heap.size) (M:AS m=0):
  Calls Tryz.prog 37 #[v] w fun e w'=>∃g,e=.returned (.tuple #[.pointer (some ⟨g,0,none⟩),.int .i64 0])/\zb w w'/\RtB w' (fun k=>w.heap.size<=k/\k<w'.heap.size) Y g m (loadS m [] 0):=by
 refine (new_calls w hm I z).mono ?_
 have D:loadE m [] 0=0:=by
  unfold loadE;rw [M,if_neg (by simp),if_neg (by decide)];rfl
 rintro e w' ⟨v',rfl,G,h | ⟨Q,J,K,g,gr,cap,pt,rfl,O⟩⟩
 ·exact absurd D h.1
 ·exact ⟨g,by rw [D];rfl,G,⟨gr,cap,pt,O.bound⟩,fun k E=>E.2,fun k E=>DT (z k E) G.size,J,I,K,Int.le_refl _⟩
end
section
open Go.RowKit
structure RInv (m:MZ) (s:RS):Prop where
 ch:zr m s.ch
 st:0<=s.steps
 dn:s.done=(loadS m s.ch s.steps).done
 op:s.ch≠[]->Ay m s.ch=true
theorem rinv_load {m:MZ}:RInv m (loadS m [] 0):=⟨.nil,Int.le_refl _,rfl,fun h=>absurd rfl h⟩
theorem RInv.one {m:MZ} {s:RS} (h:RInv m s):RInv m (s.one m):=by
 unfold RS.one
 split
 ·rename_i c G
  obtain ⟨z,D,E⟩:=stepC_some h.ch G;refine ⟨z,by have:=h.st;show 0<=s.steps+1;omega,?_,fun _=>E⟩;show zL m c=(zL m c || (decide (c=[]) && decide (0<s.steps+1)));have:decide (c=[])=false:=Dv (by rintro rfl;simp at D);rw [this,Bool.false_and,Bool.or_false]
 ·refine ⟨.nil,by have:=h.st;show 0<=s.steps+1;omega,?_,fun h=>absurd rfl h⟩;show true=(zL m [] || (decide (([]:List Int)=[]) && decide (0<s.steps+1)));have z:decide (0<s.steps+1)=true:=Du (by have:=h.st;omega);rw [z];simp
theorem RInv.run {m:MZ}:∀(n:Nat) {s:RS},RInv m s->RInv m (RS.run m n s)
 | 0,s,h=>h
 | n+1,s,h=>by
  unfold RS.run
  split
  ·exact h
  ·exact RInv.run n h.one
theorem RInv.loadE {m:MZ} {s:RS} (h:RInv m s) (z:AS m=0):loadE m s.ch s.steps=0:=by
 unfold Go.Proofs.YtnmkmhpgnpojbaaGreatDoor.loadE;rw [z,if_neg (by simp),if_neg (by have:=h.st;omega),if_pos];rw [Bd.2 h.ch,Bool.true_and,Et,DB];by_cases h0:s.ch=[]
 ·exact .inl h0
 ·exact .inr (h.op h0)
theorem RInv.loadS {m:MZ} {s:RS} (h:RInv m s):loadS m s.ch s.steps=s:=by
 obtain ⟨c,d,n⟩:=s;have z:d=(zL m c || (decide (c=[]) && decide (0<n))):=h.dn;show RS.mk c (zL m c || (decide (c=[]) && decide (0<n))) n=RS.mk c d n;rw [<-z]
theorem RInv.open {m:MZ} {s:RS} (h:RInv m s) (z:AS m=0) (D:s.ch≠[]):openO m s.ch=true:=by
 unfold openO okC;rw [Bd.2 h.ch,h.op D,Du z];rfl
theorem RInv.done {m:MZ} {s:RS} (h:RInv m s) (G:s.done=true) (E:zL m s.ch=false):s.ch=[]:=by
 have z:=h.dn;rw [G] at z;unfold Go.Proofs.YtnmkmhpgnpojbaaGreatDoor.loadS at z;simp only [E,Bool.false_or] at z;have D:=z.symm;rw [DD,DB] at D;exact D.1
theorem RInv.cmp {m:MZ} {s:RS} (h:RInv m s) (z:zL m s.ch=true):s.done=true:=by
 rw [h.dn];unfold Go.Proofs.YtnmkmhpgnpojbaaGreatDoor.loadS;simp [z]
structure OneX (w wr:World) (X:Nat->Prop) (g:Nat) (m:MZ) (s:RS):Prop where
 ext:zb w wr
 rt:RtB wr X (fun b=>b<w.heap.size) g m s
 lo:∀k,X k->w.heap.size<=k
 inv:RInv m s
def OneR (w wr:World) (g:Nat) (m:MZ) (s:RS):Prop:=∃X,OneX w wr X g m s
def TwoR (w wr:World) (g g':Nat) (m:MZ) (s s':RS):Prop:=∃X X',OneX w wr X g m s/\OneX w wr X' g' m s'/\∀k,X k->¬ X' k
section
variable {w wr w':World} {X X':Nat->Prop} {g g':Nat} {m:MZ} {s s':RS}
theorem OneX.more (h:OneX w wr X g m s) (z:zb wr w'):OneX w w' X g m s:=⟨h.ext.trans z,h.rt.ext z,h.lo,h.inv⟩
theorem OneX.other (h:OneX w wr X g m s) (D:∀k,X' k->w.heap.size<=k) (I:∀k,X k->¬ X' k) (E:zi X' wr w'):OneX w w' X g m s:=
 ⟨Below.trans h.ext (E.below h.ext.size D),h.rt.chg E (fun k z G=>z.elim (fun z=>I k z G) (fun z=>by have:=D k G;omega)),h.lo,h.inv⟩
theorem OneX.step (h:OneX w wr X g m s) (n:Nat) (G:n<=1000000) (D:s.steps<=3000000000000000000):
  Calls Tryz.prog 38 #[.pointer (some ⟨g,0,none⟩),.int .i64 n] wr fun e w'=>e=.returned (.bool (RS.run m n s).done)/\OneX w w' (fun k=>X k\/(wr.heap.size<=k/\k<w'.heap.size)) g m (RS.run m n s)/\zi X wr w':=by
 refine (h.rt.step n _ _ rfl rfl G D).mono ?_;rintro e w' ⟨rfl,I,E⟩;exact ⟨rfl,⟨Below.trans h.ext (E.below h.ext.size h.lo),I,fun k z=>z.elim (h.lo k) (fun z=>Dt h.ext.size z.1),h.inv.run n⟩,E⟩
theorem OneR.more (h:OneR w wr g m s) (z:zb wr w'):OneR w w' g m s:=by
 obtain ⟨X,h⟩:=h;exact ⟨X,h.more z⟩
theorem OneR.ext (h:OneR w wr g m s):zb w wr:=by
 obtain ⟨X,h⟩:=h;exact h.ext
theorem OneR.inv (h:OneR w wr g m s):RInv m s:=by
 obtain ⟨X,h⟩:=h;exact h.inv
theorem OneR.step (h:OneR w wr g m s) (n:Nat) (D:n<=1000000) (z:s.steps<=3000000000000000000):
  Calls Tryz.prog 38 #[.pointer (some ⟨g,0,none⟩),.int .i64 n] wr fun e w'=>e=.returned (.bool (RS.run m n s).done)/\OneR w w' g m (RS.run m n s):=by
 obtain ⟨X,h⟩:=h;refine (h.step n D z).mono ?_;rintro e w' ⟨rfl,E,G⟩;exact ⟨rfl,_,E⟩
theorem OneR.choices (h:OneR w wr g m s):Calls Tryz.prog 54 #[.pointer (some ⟨g,0,none⟩)] wr fun e w'=>∃v',e=.returned v'/\Mk wr w' v' s.ch:=by
 obtain ⟨X,h⟩:=h;exact h.rt.choices
theorem OneR.found (h:OneR w wr g m s):Calls Tryz.prog 39 #[.pointer (some ⟨g,0,none⟩)] wr (BZ wr m s.ch):=by
 obtain ⟨X,h⟩:=h;exact h.rt.found
theorem OneR.len (h:OneR w wr g m s):s.ch.length<=300:=by
 obtain ⟨X,h⟩:=h;exact h.rt.ch.len300 h.rt.good
theorem OneR.good (h:OneR w wr g m s):zE m/\Lens m:=by
 obtain ⟨X,h⟩:=h;exact ⟨h.rt.good,h.rt.lens⟩
theorem TwoR.fst (h:TwoR w wr g g' m s s'):OneR w wr g m s:=by
 obtain ⟨X,X',z,D,E⟩:=h;exact ⟨X,z⟩
theorem TwoR.more (h:TwoR w wr g g' m s s') (z:zb wr w'):TwoR w w' g g' m s s':=by
 obtain ⟨X,X',D,E,G⟩:=h;exact ⟨X,X',D.more z,E.more z,G⟩
theorem TwoR.step (h:TwoR w wr g g' m s s') (n:Nat) (K:n<=1000000) (D:s.steps<=3000000000000000000):
  Calls Tryz.prog 38 #[.pointer (some ⟨g,0,none⟩),.int .i64 n] wr fun e w'=>e=.returned (.bool (RS.run m n s).done)/\TwoR w w' g g' m (RS.run m n s) s':=by
 obtain ⟨X,X',E,G,I⟩:=h;refine (E.step n K D).mono ?_;rintro e w' ⟨rfl,M,J⟩;refine ⟨rfl,_,X',M,G.other E.lo (fun k hk z=>I k z hk) J,fun k hk z=>?_⟩;rcases hk with hk | hk
 ·exact I k hk z
 ·have:=G.rt.xb k z;omega
theorem new1 {v:Value} {okm:Nat->Prop} (w wr:World) (D:zb w wr) (hm:zF w okm v m) (K:Lens m) (I:AS m=0):
  Calls Tryz.prog 37 #[v] wr fun e w'=>∃g,e=.returned (.tuple #[.pointer (some ⟨g,0,none⟩),.int .i64 0])/\zb wr w'/\OneR w w' g m (loadS m [] 0):=by
 refine (newB_calls (Y:=fun b=>b<w.heap.size) wr ((hm.bound.weaken fun b E=>E.2).below D) K (fun b E=>DT E D.size) I).mono ?_;rintro e w' ⟨g,rfl,z,G⟩;exact ⟨g,rfl,z,_,D.trans z,G,fun k J=>Dt D.size J.1,rinv_load⟩
end
end
end Go.Proofs.YtnmkmhpgnpojbaaGreatDoor
