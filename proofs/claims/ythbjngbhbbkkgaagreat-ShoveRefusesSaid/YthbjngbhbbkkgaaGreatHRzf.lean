import Derived.Test.YthbjngbhbbkkgaaGreatHRzd
import Derived.Test.YthbjngbhbbkkgaaGreatHRze
set_option linter.unusedVariables false
set_option linter.unusedSimpArgs false
set_option maxRecDepth 100000
set_option maxHeartbeats 16000000
namespace Go.Proofs.YthbjngbhbbkkgaaGreat
variable {x:List Int} {ok okm:Nat->Prop} {v v':Value}
section
open Go.RowKit
attribute [local go_sem ↓] Go.wp_at_zero Go.wp_at_succ
theorem AY.bound {w:World} {X Y:Nat->Prop} {g gr cap:Nat} {m:MZ} {s:RS} {pt:List Nat} (h:AY w X Y g gr cap m s pt):AY w (fun k=>X k/\k<w.heap.size) Y g gr cap m s pt:=
 ⟨h.blk,⟨h.xg,zd h.blk⟩,⟨h.xr,(h.row.1.lt gr rfl).2⟩,h.ne,h.yg,h.yr,h.row.1,h.row.2.1,fun k p hp=>(h.row.2.2 k p hp).bound.weaken fun b hb=>by
  rcases hb with ⟨hb | hb,z⟩
  ·exact .inl ⟨⟨hb.1,z⟩,hb.2⟩
  ·exact .inr hb⟩
theorem AY.chg {w w':World} {X Y X':Nat->Prop} {g gr cap:Nat} {m:MZ} {s:RS} {pt:List Nat} (h:AY w X Y g gr cap m s pt) (D:zp X' w w') (E:∀k,X k\/Y k->¬ X' k):AY w' X Y g gr cap m s pt:=
 h.same fun b z G=>D.block b z (E b G)
structure RtB (w:World) (X Y:Nat->Prop) (g:Nat) (m:MZ) (s:RS):Prop where
 rt:∃gr cap pt,AY w X Y g gr cap m s pt
 xb:∀k,X k->k<w.heap.size
 yb:∀k,Y k->k<w.heap.size
 good:zC m
 lens:Lens m
 ch:zx m s.ch
 st:0<=s.steps
section
variable {w w':World} {X Y X':Nat->Prop} {g:Nat} {m:MZ} {s:RS}
theorem RtB.chg (h:RtB w X Y g m s) (z:zp X' w w') (J:∀k,X k\/Y k->¬ X' k):RtB w' X Y g m s:=by
 obtain ⟨⟨gr,cap,pt,M⟩,h1,h2,h3,E,G,I⟩:=h;exact ⟨⟨gr,cap,pt,M.chg z J⟩,fun k D=>Fh (h1 k D) z.size,fun k D=>Fh (h2 k D) z.size,h3,E,G,I⟩
theorem RtB.ext (h:RtB w X Y g m s) (z:zb w w'):RtB w' X Y g m s:=h.chg (zp.of_ext (X:=fun _=>False) z) (fun _ _ h=>h)
theorem RtB.step (h:RtB w X Y g m s) (n:Nat) (s':RS) (d:Bool) (T:s'.done=d) (I:RS.run m n s=s') (U:n<=1000000) (J:s.steps<=3000000000000000000):
  Calls Tryz.prog 28 #[.pointer (some ⟨g,0,none⟩),.int .i64 n] w fun e w'=>e=.returned (.bool d)/\RtB w' (fun k=>X k\/(w.heap.size<=k/\k<w'.heap.size)) Y g m s'/\zp X w w':=by
 obtain ⟨⟨gr,cap,pt,V⟩,h1,h2,h3,M,E,O⟩:=h;refine (stepN_calls (X:=fun k=>X k\/w.heap.size<=k) n w (V.widen fun _ h=>.inl h) h3 M E U O J (fun _ h=>.inr h) h2).mono ?_;rintro e w' ⟨rfl,gr',cap',pt',D,z⟩;rw [I] at D⊢;refine ⟨by rw [T],⟨⟨gr',cap',pt',D.bound.widen ?_⟩,?_,?_,h3,M,?_,?_⟩,?_⟩
 ·rintro k ⟨hk | hk,G⟩
  ·exact .inl hk
  ·exact .inr ⟨hk,G⟩
 ·rintro k (hk | hk)
  ·exact Fh (h1 k hk) z.size
  ·exact hk.2
 ·exact fun k hk=>Fh (h2 k hk) z.size
 ·rw [<-I];exact run_isCh n E
 ·have:=run_steps (m:=m) n E;rw [I] at this;omega
 ·exact ⟨z.os,z.tape,z.output,z.size,fun b Q hx=>z.block b Q (by
   rintro (h | h)
   ·exact hx h
   ·omega)⟩
theorem RtB.fb (h:RtB w X Y g m s):∀k,X k\/Y k->k<w.heap.size:=fun k z=>z.elim (h.xb k) (h.yb k)
theorem RtB.found (h:RtB w X Y g m s):Calls Tryz.prog 29 #[.pointer (some ⟨g,0,none⟩)] w (Dd w m s.ch):=by
 obtain ⟨⟨gr,cap,pt,E⟩,h1,h2,h3,z,D,G⟩:=h;exact found_c w E h3 z D
end
theorem newB_calls {Y:Nat->Prop} {m:MZ} (w:World) (hm:zw w Y v m) (I:Lens m) (z:∀b,Y b->b<w.heap.size) (J:AO m=0):
  Calls Tryz.prog 27 #[v] w fun e w'=>∃g,e=.returned (.tuple #[.pointer (some ⟨g,0,none⟩),.int .i64 0])/\zb w w'/\RtB w' (fun k=>w.heap.size<=k/\k<w'.heap.size) Y g m (loadS m [] 0):=by
 refine (new_calls w hm I z).mono ?_
 have D:loadE m [] 0=0:=by
  unfold loadE;rw [J,if_neg (by simp),if_neg (by decide)];rfl
 rintro e w' ⟨v',rfl,G,h | ⟨h1,h2,h3,g,gr,cap,pt,rfl,M⟩⟩
 ·exact absurd D h.1
 ·exact ⟨g,by rw [D];rfl,G,⟨gr,cap,pt,M.bound⟩,fun k E=>E.2,fun k E=>Fh (z k E) G.size,h2,I,h3,Int.le_refl _⟩
end
section
open Go.RowKit
structure RInv (m:MZ) (s:RS):Prop where
 ch:zx m s.ch
 st:0<=s.steps
 dn:s.done=(loadS m s.ch s.steps).done
 op:s.ch≠[]->Bb m s.ch=true
theorem rinv_load {m:MZ}:RInv m (loadS m [] 0):=⟨.nil,Int.le_refl _,rfl,fun h=>absurd rfl h⟩
theorem RInv.one {m:MZ} {s:RS} (h:RInv m s):RInv m (s.one m):=by
 unfold RS.one
 split
 ·rename_i c z
  obtain ⟨h1,h2,h3⟩:=stepC_some h.ch z;refine ⟨h1,by have:=h.st;show 0<=s.steps+1;omega,?_,fun _=>h3⟩;show zX m c=(zX m c || (decide (c=[]) && decide (0<s.steps+1)));have:decide (c=[])=false:=EK (by rintro rfl;simp at h2);rw [this,Bool.false_and,Bool.or_false]
 ·refine ⟨.nil,by have:=h.st;show 0<=s.steps+1;omega,?_,fun h=>absurd rfl h⟩;show true=(zX m [] || (decide (([]:List Int)=[]) && decide (0<s.steps+1)));have h1:decide (0<s.steps+1)=true:=EJ (by have:=h.st;omega);rw [h1];simp
theorem RInv.run {m:MZ}:∀(n:Nat) {s:RS},RInv m s->RInv m (RS.run m n s)
 | 0,s,h=>h
 | n+1,s,h=>by
  unfold RS.run
  split
  ·exact h
  ·exact RInv.run n h.one
theorem RInv.loadE {m:MZ} {s:RS} (h:RInv m s) (z:AO m=0):loadE m s.ch s.steps=0:=by
 unfold Go.Proofs.YthbjngbhbbkkgaaGreat.loadE;rw [z,if_neg (by simp),if_neg (by have:=h.st;omega),if_pos];rw [Bn.2 h.ch,Bool.true_and,FK,EQ];by_cases h0:s.ch=[]
 ·exact .inl h0
 ·exact .inr (h.op h0)
theorem RInv.loadS {m:MZ} {s:RS} (h:RInv m s):loadS m s.ch s.steps=s:=by
 obtain ⟨c,d,n⟩:=s;have h1:d=(zX m c || (decide (c=[]) && decide (0<n))):=h.dn;show RS.mk c (zX m c || (decide (c=[]) && decide (0<n))) n=RS.mk c d n;rw [<-h1]
theorem RInv.open {m:MZ} {s:RS} (h:RInv m s) (z:AO m=0) (D:s.ch≠[]):openO m s.ch=true:=by
 unfold openO EA;rw [Bn.2 h.ch,h.op D,EJ z];rfl
theorem RInv.done {m:MZ} {s:RS} (h:RInv m s) (D:s.done=true) (z:zX m s.ch=false):s.ch=[]:=by
 have h1:=h.dn;rw [D] at h1;unfold Go.Proofs.YthbjngbhbbkkgaaGreat.loadS at h1;simp only [z,Bool.false_or] at h1;have h2:=h1.symm;rw [ES,EQ] at h2;exact h2.1
theorem RInv.cmp {m:MZ} {s:RS} (h:RInv m s) (z:zX m s.ch=true):s.done=true:=by
 rw [h.dn];unfold Go.Proofs.YthbjngbhbbkkgaaGreat.loadS;simp [z]
structure OneX (w wr:World) (X:Nat->Prop) (g:Nat) (m:MZ) (s:RS):Prop where
 ext:zb w wr
 rt:RtB wr X (fun b=>b<w.heap.size) g m s
 lo:∀k,X k->w.heap.size<=k
 inv:RInv m s
def OneR (w wr:World) (g:Nat) (m:MZ) (s:RS):Prop:=∃X,OneX w wr X g m s
section
variable {w wr w':World} {X X':Nat->Prop} {g g':Nat} {m:MZ} {s s':RS}
theorem OneX.more (h:OneX w wr X g m s) (z:zb wr w'):OneX w w' X g m s:=⟨h.ext.trans z,h.rt.ext z,h.lo,h.inv⟩
theorem OneX.other (h:OneX w wr X g m s) (D:∀k,X' k->w.heap.size<=k) (I:∀k,X k->¬ X' k) (E:zp X' wr w'):OneX w w' X g m s:=
 ⟨Below.trans h.ext (E.below h.ext.size D),h.rt.chg E (fun k z G=>z.elim (fun z=>I k z G) (fun z=>by have:=D k G;omega)),h.lo,h.inv⟩
theorem OneX.step (h:OneX w wr X g m s) (n:Nat) (G:n<=1000000) (D:s.steps<=3000000000000000000):
  Calls Tryz.prog 28 #[.pointer (some ⟨g,0,none⟩),.int .i64 n] wr fun e w'=>e=.returned (.bool (RS.run m n s).done)/\OneX w w' (fun k=>X k\/(wr.heap.size<=k/\k<w'.heap.size)) g m (RS.run m n s)/\zp X wr w':=by
 refine (h.rt.step n _ _ rfl rfl G D).mono ?_;rintro e w' ⟨rfl,I,E⟩;exact ⟨rfl,⟨Below.trans h.ext (E.below h.ext.size h.lo),I,fun k z=>z.elim (h.lo k) (fun z=>EI h.ext.size z.1),h.inv.run n⟩,E⟩
theorem OneR.more (h:OneR w wr g m s) (z:zb wr w'):OneR w w' g m s:=by
 obtain ⟨X,h⟩:=h;exact ⟨X,h.more z⟩
theorem OneR.ext (h:OneR w wr g m s):zb w wr:=by
 obtain ⟨X,h⟩:=h;exact h.ext
theorem OneR.inv (h:OneR w wr g m s):RInv m s:=by
 obtain ⟨X,h⟩:=h;exact h.inv
theorem OneR.step (h:OneR w wr g m s) (n:Nat) (D:n<=1000000) (z:s.steps<=3000000000000000000):
  Calls Tryz.prog 28 #[.pointer (some ⟨g,0,none⟩),.int .i64 n] wr fun e w'=>e=.returned (.bool (RS.run m n s).done)/\OneR w w' g m (RS.run m n s):=by
 obtain ⟨X,h⟩:=h;refine (h.step n D z).mono ?_;rintro e w' ⟨rfl,E,G⟩;exact ⟨rfl,_,E⟩
theorem OneR.found (h:OneR w wr g m s):Calls Tryz.prog 29 #[.pointer (some ⟨g,0,none⟩)] wr (Dd wr m s.ch):=by
 obtain ⟨X,h⟩:=h;exact h.rt.found
theorem OneR.len (h:OneR w wr g m s):s.ch.length<=300:=by
 obtain ⟨X,h⟩:=h;exact h.rt.ch.len300 h.rt.good
theorem OneR.good (h:OneR w wr g m s):zC m/\Lens m:=by
 obtain ⟨X,h⟩:=h;exact ⟨h.rt.good,h.rt.lens⟩
theorem new1 (w wr:World) (D:zb w wr) (hm:zw w okm v m) (M:Lens m) (I:AO m=0):
  Calls Tryz.prog 27 #[v] wr fun e w'=>∃g,e=.returned (.tuple #[.pointer (some ⟨g,0,none⟩),.int .i64 0])/\zb wr w'/\OneR w w' g m (loadS m [] 0):=by
 refine (newB_calls (Y:=fun b=>b<w.heap.size) wr ((hm.bound.weaken fun b E=>E.2).below D) M (fun b E=>Fh E D.size) I).mono ?_;rintro e w' ⟨g,rfl,z,G⟩;exact ⟨g,rfl,z,_,D.trans z,G,fun k J=>EI D.size J.1,rinv_load⟩
end
theorem found_len {m:MZ} {ch:List Int} (g:zC m) (E:Lens m) (D:zx m ch):(foundL m ch).length<=1000/\∀x∈foundL m ch,x.length<=1000:=by
 have z:=D.sok g E;unfold foundL
 split
 ·exact ⟨by have:=z.pl;have:=g.tk;omega,z.pp⟩
 ·exact ⟨by simp,fun x G=>by cases G⟩
end
section
open Go.RowKit
attribute [local go_sem ↓] Go.wp_at_zero Go.wp_at_succ
attribute [local go_sem] Oper.semAt_some
theorem equalI_calls {ok':Nat->Prop} {a b:List Int} (w:World) (h:zj w ok v a) (h':zj w ok' v' b) (hl:a.length<=20000000000000) (b1:b.length<=20000000000000):
  Calls Tryz.prog 75 #[v,v'] w fun e w'=>e=.returned (.bool (decide (a=b)))/\zK w w':=by
 obtain ⟨A,c,rfl,hc,hr⟩:=h;obtain ⟨A',c',rfl,b0,Q⟩:=h';have HR:=zh hr;clear hr;have U:=zh Q;clear Q;by_cases z:a.length=b.length
 ·have a0:((a.length:Int) != (b.length:Int))=false:=by simp [z]
  have b2:a.length<=b.length:=by omega
  have a5:b.length<=a.length:=by omega
  have T:=zh z;clear z
  go_enter Tryz.func75,Tryz.ntmps75
  go_wp2;go_loopw [13] (fun i wr=>∃k:Nat,k<=a.length/\i=.int .i64 k/\Hid (a.take k=b.take k)/\Hid (zK w wr)) (fun i _=>a.length - (intOf i).toNat)
  case atStart=>exact ⟨0,EU _,rfl,by simp [Hid],zK.refl _⟩
  case round=>
   obtain ⟨k,hk,rfl,heq,O⟩:=hrel;by_cases M:k<a.length
   ·have E:k<b.length:=by omega
    obtain ⟨bA,off,rfl,_,J⟩:=zy (HR.out.keep (O.out.same ok)) M M;obtain ⟨bB,off',rfl,_,G⟩:=zy (U.out.keep (O.out.same ok')) E E;obtain ⟨x,hx⟩:=zad (a[k]);obtain ⟨y,hy⟩:=zad (b[k]);rw [<-hx] at J;rw [<-hy] at G;have HX:=zh hx;clear hx;have HY:=zh hy;clear hy;have a6:(k:Int)<(a.length:Int):=by omega
    by_cases D:x=y
    ·have V:(x != y)=false:=by simp [D]
     have I:=zh D;clear D;go_wp2;go_quiet (fail)
     go_wp2;go_roundw
     case rel=>exact ⟨k+1,by omega,by go_num,(Eb M E).2 ⟨heq.out,by rw [<-HX.out,<-HY.out,I.out]⟩,O.out.more _⟩
     case measure=>simp [intOf];omega
    ·have V:(x != y)=true:=by simp [D]
     have I:=zh D;clear D;go_wp2;go_quiet (fail)
     go_wp2;go_ret;refine ⟨ze ?_,O.out.more _⟩;rw [eq_comm,Fd];rintro rfl;exact I.out (HX.out.trans HY.out.symm)
   ·obtain rfl:k=a.length:=by omega
    go_wp2;go_ret;refine ⟨ze ?_,O.out⟩;have h:=heq.out;rw [ER,T.out,ER] at h;simp [h]
 ·have a0:((a.length:Int) != (b.length:Int))=true:=by simp only [bne_iff_ne];omega
  have T:=zh z;clear z
  go_enter Tryz.func75,Tryz.ntmps75
  go_wp2;go_ret;refine ⟨ze ?_,zK.refl _⟩;rw [eq_comm,Fd];rintro rfl;exact T.out rfl
theorem subM_lens {m:MZ} (D:Lens m) {ps:List (List Int)} (hp:ps.length<=20000000000000) (t:Nat):Lens (Bx m ps t):=by
 have z:=keepL_len ps t;refine ⟨by show ((keepL ps t).map _).length<=_;rw [Fr];omega,D.up,by show ((keepL ps t).map _).length<=_;rw [Fr];omega,fun x E=>?_⟩;obtain ⟨k,-,rfl⟩:=FH.1 (show x∈(keepL ps t).map (m.tasks.getD · ([],[])) from E);by_cases z:k<m.tasks.length
 ·rw [EF,EE z];exact D.tl _ (EH z)
 ·rw [EF,EZ (by omega)];simp
theorem loadS_nil (m:MZ):loadS m [] 0=⟨[],zX m [],0⟩:=by
 unfold loadS;simp
theorem CL (w:World) (ok:Nat->Prop):zv w ok (.slice none 0 0) []:=⟨[],⟨none,0,rfl,EG _,Ae.nil _ _ _ _⟩,fun i x z=>by simp at z⟩
theorem intss_head {w:World} {l:List (List Int)} (h:zv w ok v (x :: l)):∃g o c v' u,v=.slice (some ⟨g,o,none⟩) (l.length+1) (c+1)/\ok g/\w.cell? ⟨g,o,none⟩=some u/\zj w ok u x/\zv w ok v' l/\
  (∀W,(Instr.sliceAt 22 (.slice (some ⟨g,o,none⟩) (l.length+1) (c+1)) (some (.int .i64 1)) none none).run Tryz.prog W=.ok v' W)/\∀W,(Instr.slice 22 (.slice (some ⟨g,o,none⟩) (l.length+1) (c+1)) (some (.int .i64 1)) none none).run Tryz.prog W=.ok v' W:=by
 obtain ⟨vs,⟨A,c,rfl,T,U,Q⟩,he⟩:=h;simp only [zab,Nat.mul_one] at T U Q;obtain ⟨c,rfl⟩:∃c',c=c'+1:=⟨c - 1,by omega⟩;obtain ⟨g,o,rfl,O,D⟩:=Q (by omega);obtain ⟨u,V,J⟩:=he 0 x rfl;have G:∀W,(sizeOf 23).run Tryz.prog W=.ok 1 W:=fun W=>Tryz.sizeOf23 W
 have E:∀W,(Instr.slice 22 (.slice (some ⟨g,o,none⟩) (l.length+1) (c+1)) (some (.int .i64 1)) none none).run Tryz.prog W=.ok (.slice (if c+1=1 then some ⟨g,o,none⟩ else some ⟨g,o+1,none⟩) l.length c) W:=fun W=>by
  have I:(Instr.sliceBounds true (l.length+1) (c+1) (some (.int .i64 1)) none none).run Tryz.prog W=.ok (1,l.length+1,c+1) W:=by
   unfold Instr.sliceBounds;simp only [Sem.run_bind,Sem.run_pure,Result.andThen_ok];rw [run_sliceBound _ _ _ _ _ (by omega) (by omega)];rfl
  unfold Instr.slice;simp only [Sem.run_bind,run_underlying Tryz.underlying22,Result.andThen_ok,I,G,Sem.run_pure,Nat.add_sub_cancel,Nat.mul_one]
  split <;> simp [Addr.add]
 refine ⟨g,o,c,_,u,rfl,O,by simpa using D 0 u V,J,?_,fun W=>(run_sliceAt_slice W 22 _ _ _ _ Tryz.underlying22).trans (E W),E⟩;refine ⟨vs.drop 1,⟨_,c,rfl,by omega,by rw [List.length_drop];omega,fun h0=>?_⟩,fun i y hy=>?_⟩
 ·refine ⟨g,o+1,by rw [if_neg (by omega)],O,fun j z G=>?_⟩;rw [List.getElem?_drop] at G;have:=D (1+j) z G
  rwa [<-Nat.add_assoc] at this
 ·obtain ⟨z,G,M⟩:=he (i+1) y (by simpa using hy);exact ⟨z,by rw [List.getElem?_drop,Nat.add_comm];exact G,M⟩
structure CPB (w wr:World) (g B L:Nat) (ps:List (List Int)):Prop where
 ext:zb w wr
 lo:w.heap.size<=g
 row:∃vs:List Value,zk wr g 23 vs.toArray/\vs.length=ps.length/\∀(i:Nat) x,ps[i]?=some x->∃u,vs[i]?=some u/\zj wr (fun b=>b≠g/\b<B/\L<=b) u x
section
variable {w wr w':World} {g B L:Nat} {ps:List (List Int)}
theorem CPB.of (h:CP w wr g ps) (D:L<=w.heap.size):CPB w wr g wr.heap.size L ps:=by
 obtain ⟨vs,z,G,he⟩:=h.row;exact ⟨h.ext,h.lo,vs,z,G,fun i x J=>by obtain ⟨u,I,E⟩:=he i x J;exact ⟨u,I,E.bound.weaken fun b z=>⟨z.1.1,z.2,EI D z.1.2⟩⟩⟩
theorem CPB.intss (h:CPB w wr g B L ps) (c:Nat) (G:ps.length<=c) (D:L<=g):zv wr (fun b=>L<=b) (.slice (some ⟨g,0,none⟩) ps.length c) ps:=by
 obtain ⟨vs,E,M,he⟩:=h.row;refine ⟨vs,⟨_,c,rfl,G,by omega,fun _=>⟨g,0,rfl,D,fun j u z=>?_⟩⟩,fun i x J=>by obtain ⟨u,z,I⟩:=he i x J;exact ⟨u,z,I.weaken fun _ h=>h.2.2⟩⟩;rw [Nat.zero_add];exact E.cell (by simpa using z)
theorem CPB.at_ (h:CPB w wr g B L ps) {k:Nat} (E:k<ps.length):∃u,wr.cell? ⟨g,k,none⟩=some u/\wr.frozen? ⟨g,k,none⟩=false/\zj wr (fun b=>b≠g/\b<B/\L<=b) u ps[k]:=by
 obtain ⟨vs,z,I,he⟩:=h.row;obtain ⟨u,G,D⟩:=he k _ (EE E);exact ⟨u,z.cell (by simpa using G),z.frozen k,D⟩
theorem CPB.keep (h:CPB w wr g B L ps) (G:zb w w') (E:∀b,b<B->b<wr.heap.size->w'.heap[b]?=wr.heap[b]?) (I:g<B):CPB w w' g B L ps:=by
 obtain ⟨vs,z,M,he⟩:=h.row;exact ⟨G,h.lo,vs,(E g I (zd z)).trans z,M,fun i x Q=>by obtain ⟨u,O,J⟩:=he i x Q;exact ⟨u,O,J.keep fun b z D=>E b z.2.1 D⟩⟩
theorem CPB.set (h:CPB w wr g B L ps) (k:Nat) {u:Value} {x:List Int} (O:zj wr (fun b=>b≠g/\b<B/\L<=b) u x):CPB w (wr.setCell ⟨g,k,none⟩ u) g B L (ps.set k x):=by
 obtain ⟨vs,E,J,he⟩:=h.row;have I:∀{v:Value} {l:List Int},zj wr (fun b=>b≠g/\b<B/\L<=b) v l->zj (wr.setCell ⟨g,k,none⟩ u) (fun b=>b≠g/\b<B/\L<=b) v l:=fun D=>D.keep fun b E _=>EP wr ⟨g,k,none⟩ u b E.1
 refine ⟨h.ext.setCell (p:=⟨g,k,none⟩) h.lo _,h.lo,vs.set k u,?_,by simp [J],fun i y z=>?_⟩
 ·have:=E.set (k:=k) u
  rwa [List.setIfInBounds_toArray] at this
 ·rw [List.getElem?_set] at z⊢;by_cases D:k=i
  ·subst D;rw [if_pos rfl] at z⊢
   split at z
   ·rename_i M
    rw [if_pos (by omega)];injection z with z;subst z;exact ⟨u,rfl,I O⟩
   ·cases z
  ·rw [if_neg D] at z⊢;obtain ⟨v,Q,G⟩:=he i y z;exact ⟨v,Q,I G⟩
end
structure Cr (w6 wr:World) (L go B:Nat) (ps:List (List Int)) (t k:Nat) (fd o:List (List Int)) (mv:List Int) (fdv mvv:Value):Prop where
 cb:CPB w6 wr go B L o
 len:o.length=ps.length
 same:∀j,k<=j->o.getD j []=ps.getD j []
 fdl:fd.length=(((List.range ps.length).drop k).filter (BG ps t)).length
 fds:zv wr (fun b=>L<=b/\b<w6.heap.size) fdv fd
 fdx:∀x∈fd,x.length<=1000
 lo:go<B/\B<=wr.heap.size
 mo:zD wr B mvv mv
theorem DY {n k:Nat} (z:k<n):(List.range n).drop k=k :: (List.range n).drop (k+1):=by
 rw [List.drop_eq_getElem_cons (by simpa using z)];simp
section
variable {w6 wr w':World} {L go B:Nat} {ps:List (List Int)} {t k:Nat} {fd o:List (List Int)} {mv:List Int} {fdv mvv:Value}
theorem Cr.app {r:Option Nat} {mv':List Int} {mvv':Value} (h:Cr w6 wr L go B ps t k fd o mv fdv mvv) (G:wr.grownBy w' r) (J:∀b,r=some b->B<=b) (M:zD w' B mvv' mv'):Cr w6 w' L go B ps t k fd o mv' fdv mvv':=by
 have I:∀b,b<B->b<wr.heap.size->w'.heap[b]?=wr.heap[b]?:=fun b E D=>G.block b D (fun e=>by have:=J b e.symm;omega)
 have O:=h.cb.lo;have z:=h.lo;refine ⟨h.cb.keep ?_ I z.1,h.len,h.same,h.fdl,h.fds.keep fun b E D=>I b (by omega) D,h.fdx,⟨z.1,EI z.2 G.size⟩,M⟩;exact ((zp.of_ext (X:=fun b=>B<=b) h.cb.ext).grown G (fun b E _=>J b E)).below (EG _) (fun b E=>by omega)
theorem Cr.more (h:Cr w6 wr L go B ps t k fd o mv fdv mvv) (z:zb wr w'):Cr w6 w' L go B ps t k fd o mv fdv mvv:=
 ⟨h.cb.keep (h.cb.ext.trans z) (fun b _ D=>z.block b D) h.lo.1,h.len,h.same,h.fdl,h.fds.below z,h.fdx,⟨h.lo.1,EI h.lo.2 z.size⟩,Bi h.mo z⟩
theorem Cr.skip (h:Cr w6 wr L go B ps t k fd o mv fdv mvv) (z:k<ps.length) (D:BG ps t k=false):Cr w6 wr L go B ps t (k+1) fd o mv fdv mvv:=
 ⟨h.cb,h.len,fun j E=>h.same j (by omega),by rw [h.fdl,DY z,Fp (by rw [D];simp)],h.fds,h.fdx,h.lo,h.mo⟩
theorem Cr.cons (h:Cr w6 wr L go B ps t k fd o mv fdv mvv) (z:k<ps.length) (D:BG ps t k=true):∃x fd',fd=x :: fd'/\fd'.length=(((List.range ps.length).drop (k+1)).filter (BG ps t)).length:=by
 have h1:=h.fdl;rw [DY z,FB D,zab] at h1
 match fd,h1 with
 | x :: fd',h1=>exact ⟨x,fd',rfl,by simpa using h1⟩
theorem Cr.put {fd':List (List Int)} {u:Value} (h:Cr w6 wr L go B ps t k (x :: fd') o mv fdv mvv) (O:k<ps.length) (E:fd'.length=(((List.range ps.length).drop (k+1)).filter (BG ps t)).length)
  (G:zj wr (fun b=>L<=b/\b<w6.heap.size) u x) (I:zv wr (fun b=>L<=b/\b<w6.heap.size) v' fd'):Cr w6 (wr.setCell ⟨go,k,none⟩ u) L go B ps t (k+1) fd' (o.set k x) mv v' mvv:=by
 have D:∀b,b<w6.heap.size->b≠go:=fun b z=>by have:=h.cb.lo;omega
 refine ⟨h.cb.set k (G.weaken fun b z=>⟨D b z.2,by have:=h.cb.lo;have:=h.lo;omega,z.1⟩),by rw [List.length_set];exact h.len,fun j M=>?_,E,?_,fun y J=>h.fdx y (Fa _ J),⟨h.lo.1,by simpa using h.lo.2⟩,?_⟩
 ·rw [DH,if_neg (by omega)];exact h.same j (by omega)
 ·exact I.keep fun b z _=>EP wr ⟨go,k,none⟩ u b (D b z.2)
 ·exact ownsRow_setCell_below h.mo (by have:=h.lo.1;exact this) u
end
def AddPost (w:World) (r:AddR) (e:Ending) (w':World):Prop:=
 ∃vp vm vw,e=.returned (.tuple #[vp,vm,vw,.int .i64 r.err])/\zb w w'/\zv w' (fun b=>w.heap.size<=b) vp r.ps/\zj w' (fun b=>w.heap.size<=b) vm r.mv/\Dz w' (fun b=>w.heap.size<=b) vw r.why
theorem searched_calls {okf:Nat->Prop} {vf:Value} {m:MZ} {ps:List (List Int)} (t:Nat) (w:World) (hm:zw w okm v m) (hl:Lens m) (hf:zv w okf vf ps) (l0:∀x∈ps,x.length<=100000000000) (hL:By m ps=true) (hk:AM m t=true) (h2:ps.getD t []=[]):
  Calls Tryz.prog 40 #[v,vf,.int .i64 t] w (AddPost w (AD m ps t)):=by
 obtain ⟨ns,l6⟩:=hm.nets;have HM:=zh l6;have HL:=zh hl;have HF:=zh hf;obtain ⟨Af,cf,Au,cu,At,ct,rfl,-,-,-⟩:=hm.parts;obtain ⟨vs,⟨Ap,cp,rfl,q9,-⟩,-⟩:=hf;clear hm l6 hl;obtain ⟨k6,l8,-⟩:=AN.1 hL;obtain ⟨-,o8,o9⟩:=AX.1 hk;have f4:subO m ps t=Bx m ps t:=by unfold subO;rw [hL,hk];rfl
 have G:=zh (zC.of k6);have p1:=G.out.tk;have r7:ps.length<=6:=by omega
 have q7:Hid (t<ps.length):=by (show _<_);omega
 have c7:=zh (subM_good G.out l8 t);have j8:Hid (AO (Bx m ps t)=0):=Dq c7.out;have c8:=zh (subM_lens HL.out (ps:=ps) (by omega) t);have f9:=zh l0;have j7:=zh f4;clear hL hk k6 l8 o8 o9 p1 l0 f4;obtain ⟨sm,i8⟩:=zad (Bx m ps t);rw [<-i8] at c7 j8 c8 j7;have a3:=zh i8;clear i8
 go_enter Tryz.func40,Tryz.ntmps40
 go_upto_region 1 with fail;obtain ⟨h6,r0,r1,r2,r3,r4,r5⟩:=box6 w (.int .i64 m.w) (.int .i64 m.h) (.int .i64 m.l) (.slice Af m.free.length cf) (.slice Au m.up.length cu) (.slice At m.tasks.length ct);have i7:(w.alloc (.cells #[.int .i64 m.w,.int .i64 m.h,.int .i64 m.l,.slice Af m.free.length cf,.slice Au m.up.length cu,.slice At m.tasks.length ct] 32)).heap.size=w.heap.size+1:=by simp
 generalize w.alloc _=w0 at h6 r0 r1 r2 r3 r4 r5 i7⊢;have b4:=zk.new w0 #[.int .i64 0,.slice none 0 0,.slice none 0 0] 37 (g:=w0.heap.size) rfl;have d5:zb w0 (w0.alloc (.cells #[.int .i64 0,.slice none 0 0,.slice none 0 0] 37)):=(zb.refl w0).alloc _;generalize w0.alloc _=w1 at b4 d5⊢;rw [i7] at b4;obtain ⟨gm,i1⟩:=zad w.heap.size;rw [<-i1] at r0 r1 r2 r3 r4 r5 b4⊢;have b0:Hid (gm=w.heap.size):=i1;have V:=zh d5;have r0:=fun W h=>r0 W (V.out.trans h)
 have r1:=fun W h=>r1 W (V.out.trans h)
 have r2:=fun W h=>r2 W (V.out.trans h)
 have r3:=fun W h=>r3 W (V.out.trans h)
 have r4:=fun W h=>r4 W (V.out.trans h)
 have r5:=fun W h=>r5 W (V.out.trans h)
 have HP:=zh b4;have g7:=zh (h6.trans d5);clear i1 h6 i7 d5 b4;have hx:zb w1 w1:=zb.refl w1
 go_wp2_with fail
 refine (sub_calls t w1 (HM.out.below g7.out) HL.out (HF.out.below g7.out) (by omega) (fun x hx=>by have:=f9.out x hx;omega)).mono ?_;rw [j7.out];rintro e w2 ⟨vm,rfl,g8,i6⟩;have n2:=zh i6.maze;obtain ⟨Bf,df,Bu,du,Bt,dt,rfl,-,-,-⟩:=i6.maze.parts;have n8:=zh (g7.out.trans g8);have n3:=zh (HP.out.ext g8);clear g8 i6 r0 r1 r2 r3 r4 r5 hx;go_upto_region 2 with fail;obtain ⟨b8,r0,r1,r2,r3,r4,r5⟩:=box6 w2 (.int .i64 sm.w) (.int .i64 sm.h) (.int .i64 sm.l) (.slice Bf sm.free.length df) (.slice Bu sm.up.length du) (.slice Bt sm.tasks.length dt);generalize w2.alloc _=w3 at b8 r0 r1 r2 r3 r4 r5⊢;obtain ⟨gn,l4⟩:=zad w2.heap.size;rw [<-l4] at r0 r1 r2 r3 r4 r5⊢;have a4:=zh (n8.out.trans b8);have g4:=zh (n3.out.ext b8);have d9:=zh (n2.out.below b8);clear l4 b8;have hx:zb w3 w3:=zb.refl w3
 go_wp2_with fail
 refine (new1 w3 w3 (zb.refl w3) d9.out c8.out j8.out).mono ?_;rintro e w4 ⟨g,rfl,k1,h4⟩;have p2:zb w3 w4:=k1;obtain ⟨S0,d4⟩:=zad (loadS sm [] 0);rw [<-d4] at h4;have e8:S0.steps<=3000000000000000000:=by rw [d4];unfold loadS;simp
 obtain ⟨S,hS⟩:=zad (RS.run sm 20000 S0)
 have j9:Hid (Calls Tryz.prog 28 #[.pointer (some ⟨g,0,none⟩),.int .i64 (20000:Nat)] w4 fun e w'=>e=.returned (.bool S.done)/\OneR w3 w' g sm S):=by
  (show Calls _ _ _ _ _)
  rw [hS];exact h4.step 20000 (by omega) e8
 have c6:Hid (S=endS m ps t):=by (show _=_);rw [hS,d4,loadS_nil,a3.out];rfl
 clear k1 h4 d4 e8 hS hx
 go_wp2_with fail
 refine j9.out.mono ?_;rintro e w5 ⟨rfl,h5⟩;have g6:=zh h5;have d7:zb w3 w5:=h5.ext;clear j9 p2 h5;obtain ⟨dn,h8⟩:=zad S.done;rw [<-h8];have f6:Hid ((endS m ps t).done=dn):=by (show _=_);rw [h8,c6.out]
 clear h8;have a1:=zh (g4.out.ext d7)
 cases dn with
 | false=>
  have z:Hid (AD m ps t=⟨[],[],.zero,53⟩):=by (show _=_);unfold AD;rw [if_pos f6.out]
  have z0:=a1.out.cell (k:=0) rfl;have z1:=a1.out.cell (k:=1) rfl;have z2:=a1.out.cell (k:=2) rfl;have fz:=fun j=>a1.out.frozen j
  go_wp2_with fail
  refine CH (P:=fun W=>bodyPost Tryz.prog Tryz.f40 _ Exit.ret _ W) (g2:=gm+1) ?_ a1.out;intro WZ D T a7;have y0:=D.cell (k:=0) rfl;have y1:=D.cell (k:=1) rfl;have y2:=D.cell (k:=2) rfl;refine FC (v:=.tuple #[.slice none 0 0,.slice none 0 0,.agg #[.int .i64 0,.slice none 0 0,.slice none 0 0],.int .i64 53]) (by simp [results,Tryz.results40,go_sem,y0,y1,y2]) rfl ?_;rw [z.out];exact ⟨_,_,_,rfl,Below.trans (a4.out.trans d7) (T.mono (by have:=b0.out;omega)),CL _ _,zj.nil _ _,Dz.zero _ _⟩
 | true=>
  have k3:=g6.out.found
  go_wp2_with fail
  refine k3.mono ?_;rintro e w6 ⟨vfd,rfl,g9,k7⟩;have O:zb w3 w6:=d7.trans g9;have f7:=zh k7;obtain ⟨_,⟨Afd,cfd,rfl,-,-⟩,-⟩:=k7;obtain ⟨cm,h7⟩:=zad (zX sm S.ch);rw [<-h7];have c5:=zh h7;have g5:=zh (g4.out.ext O);have e6:Hid (w.heap.size<=w6.heap.size):=(a4.out.trans O).size;have g3:Hid (gm+2<=w5.heap.size):=zd a1.out;have e7:Hid (w5.heap.size<=w6.heap.size):=g9.size;clear h7 k3 g9 d7
  cases cm with
  | false=>
   have l9:=pmake_calls w6 (d9.out.below O) c8.out
   go_wp2_with fail
   refine l9.mono ?_;rintro e w7 ⟨vw,rfl,k2,d6⟩;have j0:zb w3 w7:=O.trans k2;have e0:=zh d6;obtain ⟨mk,i4⟩:=zad ((BV sm).1);obtain ⟨wy,i9⟩:=zad ((BV sm).2);rw [<-i9] at e0 d6;rw [<-i4];obtain ⟨Ay,cy,Ak,ck,rfl,-⟩:=d6.form
   have z:Hid (AD m ps t=if mk=0 then ⟨[],[],wy,54⟩ else ⟨[],[],.zero,mk⟩):=by
    (show _=_)
    unfold AD;rw [if_neg (by rw [f6.out];simp),if_neg (by rw [<-c6.out,<-a3.out,<-c5.out];simp),i4,i9,a3.out]
   have j5:=zh (g4.out.ext j0);clear l9 k2 d6 i4 i9 O;go_upto_region 8 with fail;have a5:=zk.new w7 #[.int .i64 wy.task,.slice Ay wy.side.length cy,.slice Ak wy.kids.length ck] 37 (g:=w7.heap.size) rfl;have b5:zb w7 (w7.alloc (.cells #[.int .i64 wy.task,.slice Ay wy.side.length cy,.slice Ak wy.kids.length ck] 37)):=(zb.refl w7).alloc _;generalize w7.alloc _=w8 at a5 b5⊢;obtain ⟨gy,i2⟩:=zad w7.heap.size;rw [<-i2] at a5⊢;have m9:Hid (gm+1<gy):=by show _<_;rw [i2];exact zd j5.out
   have a2:=zh (j5.out.ext b5);have n4:=zh (e0.out.ext b5);have m4:zb w3 w8:=j0.trans b5;have rul:∀{i:Nat} {v:Value},w8.cell? ⟨gy,i,none⟩=some v->∀W,zp (fun b=>b=gm+1) w8 W->W.cell? ⟨gy,i,none⟩=some v:=fun h W hW=>hW.cellk h (by have:=m9.out;show ¬ (gy=gm+1);omega)
   have q0:=rul (a5.cell (k:=0) rfl);have q1:=rul (a5.cell (k:=1) rfl);have q2:=rul (a5.cell (k:=2) rfl);clear rul a5 b5 i2 j0;by_cases h0:mk=0
   ·have z:Hid (AD m ps t=⟨[],[],wy,54⟩):=by (show _=_);rw [z.out,if_pos h0]
    subst h0;go_upto_region 10 with fail;refine EW (S:=(fun W=>zp (fun b=>b=gm+1) w8 W)) Ag (zp.of_ext (zb.refl w8).drew) fun zH=>?_;have I:zb w8 w8.drew:=(zb.refl w8).drew;generalize w8.drew=wd at zH I⊢;refine zf 0 zH ?_;refine zf 1 zH ?_;simp only [za,ED];refine zf 2 zH ?_;simp only [za,ED];refine zE 3 fun K hK=>?_;have a9:=zh (a2.out.ext I);have z0:=a9.out.cell (k:=0) rfl;have z1:=a9.out.cell (k:=1) rfl;have z2:=a9.out.cell (k:=2) rfl;have hfz:∀j,wd.frozen? ⟨gm+1,j,none⟩=false:=fun j=>a9.out.frozen j
    go_simp;refine zae hK (zp.set (zp.set (zp.set (zp.of_ext (X:=fun b=>b=gm+1) I) (gm+1) 0 (.int .i64 wy.task) rfl) (gm+1) 1 (.slice Ay wy.side.length cy) rfl) (gm+1) 2 (.slice Ak wy.kids.length ck) rfl) fun zH=>?_;clear hK K;try simp only [za,ED]
    refine zE 4 fun K hK=>?_;go_simp;refine zae hK (zp.set (zp.set (zp.set (zp.of_ext (X:=fun b=>b=gm+1) I) (gm+1) 0 (.int .i64 wy.task) rfl) (gm+1) 1 (.slice Ay wy.side.length cy) rfl) (gm+1) 2 (.slice Ak wy.kids.length ck) rfl) fun zH=>?_;clear hK K;try simp only [za,ED]
    refine Fk (by kernel_rfl) ?_ _;go_wp2;refine CH (P:=fun W=>bodyPost Tryz.prog Tryz.f40 _ Exit.ret _ W) (g2:=gm+1) ?_ a9.out;intro WZ D T a7;have y0:=D.cell (k:=0) rfl;have y1:=D.cell (k:=1) rfl;have y2:=D.cell (k:=2) rfl;refine FC (v:=.tuple #[.slice none 0 0,.slice none 0 0,.agg #[.int .i64 wy.task,.slice Ay wy.side.length cy,.slice Ak wy.kids.length ck],.int .i64 54]) (by simp [results,Tryz.results40,go_sem,y0,y1,y2]) rfl ?_;rw [z.out];exact ⟨_,_,_,rfl,Below.trans ((a4.out.trans m4).trans I) (T.mono (by have:=b0.out;omega)),CL _ _,zj.nil _ _,(n4.out.ext I).keepW (fun b hb E=>a7 b E (by have h1:=zd g5.out;omega)) (fun b hb=>EI e6.out hb)⟩
   ·have z:Hid (AD m ps t=⟨[],[],.zero,mk⟩):=by (show _=_);rw [z.out,if_neg h0]
    have r8:(mk==0)=false:=by rw [ET];exact h0
    have r9:(mk != 0)=true:=by rw [bne_iff_ne];exact h0
    clear h0;have z0:=a2.out.cell (k:=0) rfl;have z1:=a2.out.cell (k:=1) rfl;have z2:=a2.out.cell (k:=2) rfl;have fz:=fun j=>a2.out.frozen j
    go_wp2_with fail
    refine CH (P:=fun W=>bodyPost Tryz.prog Tryz.f40 _ Exit.ret _ W) (g2:=gm+1) ?_ a2.out;intro WZ D T a7;have y0:=D.cell (k:=0) rfl;have y1:=D.cell (k:=1) rfl;have y2:=D.cell (k:=2) rfl;refine FC (v:=.tuple #[.slice none 0 0,.slice none 0 0,.agg #[.int .i64 0,.slice none 0 0,.slice none 0 0],.int .i64 mk]) (by simp [results,Tryz.results40,go_sem,y0,y1,y2]) rfl ?_;rw [z.out];exact ⟨_,_,_,rfl,Below.trans (a4.out.trans m4) (T.mono (by have:=b0.out;omega)),CL _ _,zj.nil _ _,Dz.zero _ _⟩
  | true=>
   have z:Hid (AD m ps t=⟨(CW ps t (List.range ps.length) (zP sm S.ch) ps []).1,(CW ps t (List.range ps.length) (zP sm S.ch) ps []).2,.zero,0⟩):=by
    (show _=_)
    unfold AD;rw [if_neg (by rw [f6.out];simp),if_pos (by rw [<-c6.out,<-a3.out,<-c5.out]),c6.out,a3.out]
   have k8:foundL sm S.ch=zP sm S.ch:=by unfold foundL;rw [if_pos c5.out.symm]
   have f8:=zh (found_len c7.out c8.out (g6.out.inv.ch)).2
   have j3:Hid ((zP sm S.ch).length=(keepL ps t).length):=by
    (show _=_)
    have h1:=right_ch c7.out g6.out.inv.ch c5.out.symm;rw [(DZ.1 h1).2.1,a3.out];simp [Bx]
   rw [k8] at f7 f8⊢;obtain ⟨fd0,f1⟩:=zad (zP sm S.ch);rw [<-f1] at f7 f8 j3 z⊢;clear k8 f1
   go_wp2_with fail
   refine (copied_calls w6 (HF.out.below (a4.out.trans O)) (by omega) f9.out).mono ?_;rintro e w7 ⟨go,rfl,c9⟩
   have g0:Hid (Cr w6 w7 (gm+2) go w7.heap.size ps t 0 fd0 ps [] (.slice Afd fd0.length cfd) (.slice none 0 0)):=
    ⟨CPB.of c9 (EI g3.out e7.out),rfl,fun _ _=>rfl,by rw [j3.out,List.drop_zero];rfl,(f7.out.bound.weaken fun b hb=>⟨EI g3.out hb.1,hb.2⟩).below c9.ext,f8.out,⟨c9.lt,EG _⟩,World.ownsRow_nil _ _ _ _⟩
   have n9:=zh (a4.out.trans O);obtain ⟨B,hB⟩:=zad w7.heap.size;rw [<-hB] at g0;clear hB c9
   go_wp2_with fail
   clear O;go_loopw [13,18,58] (fun fdv mvv i wr=>∃(k:Nat) (fd o:List (List Int)) (mv:List Int),i=.int .i64 (k:Nat)/\k<=ps.length/\Hid (mv.length<=k)/\Hid (Cr w6 wr (gm+2) go B ps t k fd o mv fdv mvv)/\Hid (CW ps t (List.range ps.length) fd0 ps []=CW ps t ((List.range ps.length).drop k) fd o mv)) (fun _ _ i _=>ps.length - (intOf i).toNat)
   case atStart=>exact ⟨0,fd0,ps,[],rfl,EU _,EG _,g0.out,by rw [List.drop_zero];rfl⟩
   clear g0
   case round=>
    obtain ⟨k,fd,o,mv,rfl,hk,i5,hI,i0⟩:=hrel;obtain ⟨wk,rfl⟩:∃wk:World,wk=wr:=⟨_,rfl⟩;by_cases E:k<ps.length
    ·have l5:k<o.length:=by rw [hI.out.len];exact E
     obtain ⟨uo,b9,-,i3⟩:=hI.out.cb.at_ l5
     have m0:o[k]=ps.getD k []:=by
      rw [<-hI.out.same k (EG _),EF,EE l5];rfl
     have j6:Hid ((ps.getD k []).length<=100000000000):=by
      (show _<=_)
      rw [EF,EE E];exact f9.out _ (EH E)
     obtain ⟨q,hq⟩:=zad (ps.getD k []);rw [m0,<-hq] at i3;rw [<-hq] at j6;have HQ:=zh hq;have n0:=zh i3;obtain ⟨Aq,cq,rfl,-,-⟩:=i3;have b1:Hid (BG ps t k=(decide (k=t) || decide (q≠[]))):=by (show _=_);unfold BG;rw [HQ.out]
     have q3:(k:Int)<(ps.length:Int):=by omega
     have kk0:(0:Int)<=(k:Int):=by omega
     have p8:(k:Int)<(o.length:Int):=by omega
     clear m0 hq;go_upto_region 16 with fail;go_cut [71] (fun v wx=>v=.bool (!BG ps t k)/\wk=wx)
     case first=>
      by_cases J:k=t
      ·have hd:((k:Int) != (t:Int))=false:=by simp [J]
       have U:Hid (BG ps t k=true):=by (show _=_);rw [b1.out,EJ J];rfl
       clear J
       go_wp2_with fail
       go_meet;exact ⟨by rw [U.out];rfl,rfl⟩
      ·have hd:((k:Int) != (t:Int))=true:=by rw [bne_iff_ne];omega
       by_cases a8:q=[]
       ·have U:Hid (BG ps t k=false):=by (show _=_);rw [b1.out,EK J,a8];rfl
        have o7:((q.length:Int)==0)=true:=by rw [a8];rfl
        clear J a8
        go_wp2_with fail
        go_meet;exact ⟨by rw [U.out];rfl,rfl⟩
       ·have U:Hid (BG ps t k=true):=by (show _=_);rw [b1.out,EJ a8,Bool.or_true]
        have o7:((q.length:Int)==0)=false:=by
         rw [ET];intro h;exact a8 (EX (by omega))
        clear J a8
        go_wp2_with fail
        go_meet;exact ⟨by rw [U.out];rfl,rfl⟩
     case rest=>
      obtain ⟨rfl,rfl⟩:=hcut
      cases a6:BG ps t k with
      | false=>
       have a0:=zh (hI.out.skip E a6)
       have Q:Hid (CW ps t (List.range ps.length) fd0 ps []=CW ps t ((List.range ps.length).drop (k+1)) fd o mv):=by
        (show _=_)
        rw [i0.out,DY E]
        conv=>lhs;unfold CW
        rw [if_neg (by rw [a6];simp)]
       clear a6 b1
       go_wp2_with fail
       go_roundw
       case rel=>exact ⟨k+1,fd,o,mv,by go_num,by omega,Nat.le_succ_of_le i5.out,a0.out,Q.out⟩
       case measure=>simp [intOf];omega
      | true=>
       obtain ⟨x,fd',rfl,f0⟩:=hI.out.cons E a6;have d8:=zh f0;obtain ⟨gf,of',cf',v',ux,rfl,l2,o5,m1,m2,f2,f3⟩:=intss_head hI.out.fds;have e5:=zh m1;have n7:=zh m2;have o0:Hid (x.length<=1000):=hI.out.fdx x (Ft ..)
       have Q:Hid (CW ps t (List.range ps.length) fd0 ps []=CW ps t ((List.range ps.length).drop (k+1)) fd' (o.set k x) (mvP ps t k x mv)):=by
        (show _=_)
        rw [i0.out,DY E]
        conv=>lhs;unfold CW
        rw [if_pos a6];rfl
       have b2:Hid (mvP ps t k x mv=if k≠t/\q≠x then mv++[(k:Int)] else mv):=by (show _=_);unfold mvP;rw [HQ.out]
       have m8:Hid (gf<w6.heap.size):=l2.2;obtain ⟨Ax,cx,rfl,-,-⟩:=m1;have hN:(0:Int)<((fd'.length:Int)+1):=by omega
       have q8:fd'.length+1<=20000000000000:=by
        have h1:=d8.out;have h2:=Fi (BG ps t) ((List.range ps.length).drop (k+1));rw [List.length_drop,List.length_range] at h2;omega
       have hx:zb wk wk:=zb.refl wk;clear a6 b1 f0 l2 m2 f2 f3;obtain ⟨bm,k5⟩:=zad ((decide (k≠t) && !decide (q=x)));have c4:=zh k5;clear k5;go_upto_region 17 with fail;go_cut [85] (fun v wx=>v=.bool bm/\zb wk wx)
       case first=>
        by_cases J:k=t
        ·have hd:((k:Int) != (t:Int))=false:=by simp [J]
         have U:Hid (bm=false):=by (show _=_);rw [c4.out,EK (fun h=>h J)];rfl
         clear J;go_quiet (fail)
         go_wp2_with fail
         go_meet;exact ⟨by rw [U.out],hx.drewN _⟩
        ·have hd:((k:Int) != (t:Int))=true:=by rw [bne_iff_ne];omega
         obtain ⟨eb,h9⟩:=zad (decide (q=x))
         have m7:Hid (∀n,Calls Tryz.prog 75 #[.slice Aq q.length cq,.slice Ax x.length cx] (wk.drewN n) fun e w'=>e=.returned (.bool eb)/\∃j,w'=(wk.drewN n).drewN j):=fun n=>by
          rw [h9];exact equalI_calls _ (n0.out.below (hx.drewN n)) (e5.out.below (hx.drewN n)) (by have:=j6.out;omega) (by have:=o0.out;omega)
         have U:Hid (bm=!eb):=by (show _=_);rw [c4.out,EJ J,h9];rfl
         clear J h9;go_quiet ((go_at_call 75;exact Calls.quiet_of (m7.out _)))
         go_wp2_with fail
         go_meet;exact ⟨by rw [U.out],hx.drewN _⟩
       case rest=>
        obtain ⟨rfl,o1⟩:=hcut;obtain ⟨wd,rfl⟩:∃wd:World,wd=wc:=⟨_,rfl⟩;have M:=zh (hI.out.more o1);have j4:Hid (zD wd B u18 mv):=M.out.mo;have j1:Hid (B<=wd.heap.size):=M.out.lo.2;clear b9 o5 hx
        go_upto_if 85 with fail
        go_cut [18] (fun mvw wx=>Hid (Cr w6 wx (gm+2) go B ps t k (x :: fd') o (mvP ps t k x mv) (.slice (some ⟨gf,of',none⟩) (fd'.length+1) (cf'+1)) mvw))
        case first=>
         cases bm with
         | false=>
          have U:Hid (mvP ps t k x mv=mv):=by
           (show _=_)
           rw [b2.out,if_neg];rintro ⟨h1,h2⟩;have:=c4.out;rw [EJ h1,EK h2] at this;cases this
          go_wp2_with fail
          go_meet;rw [U.out];exact M.out
         | true=>
          have U:Hid (mvP ps t k x mv=mv++[(k:Int)]):=by
           (show _=_)
           have:=c4.out;rw [eq_comm,ES,EQ,Bool.not_eq_true',Fd] at this;rw [b2.out,if_pos this]
          have q4:=i5.out
          go_wp2_with (at_builtin;refine AQ rfl _ _ rfl _ mv k B wd.heap.size 1 _ rfl rfl (j4.out.alloc _) ?d1 ?d2 ?d3 ?_)
          (try case d1=>exact zr _ _ _ (by simp))
          (try case d2=>(first | (simp;done) | (have:=j1.out;simp;omega) | (have:=j1.out;omega)))
          (try case d3=>omega)
          intro mv2 wb l7 l1 o4
          have a0:Hid (Cr w6 wb (gm+2) go B ps t k (x :: fd') o (mvP ps t k x mv) (.slice (some ⟨gf,of',none⟩) (fd'.length+1) (cf'+1)) mv2):=by
           (show Cr _ _ _ _ _ _ _ _ _ _ _ _ _)
           rw [U.out];exact (M.out.more ((zb.refl wd).alloc (.cells #[.int .i64 k] 3))).app l1.out (fun b hb=>by obtain ⟨cs,h1,h2⟩:=own_blk j4.out hb;exact h2) l7
          clear l7 l1 o4;go_wp2;go_meet;exact a0.out
        case rest=>
         have k4:=zh hcut.out;obtain ⟨wm,rfl⟩:∃wm:World,wm=wc:=⟨_,rfl⟩
         have n1:Hid ((mvP ps t k x mv).length<=k+1):=by
          (show _<=_)
          have:=i5.out;rw [b2.out]
          split
          ·rw [EO,Ff];omega
          ·omega
         clear e5 n7;obtain ⟨gf2,of2,cf2,v',ux,e,l3,e9,f5,m3,f2,f3⟩:=intss_head hcut.out.fds;injection e with e1 e2 e3;injection e1 with e1;injection e1 with e1 e4;have e3:cf'=cf2:=by omega
         subst e1 e4 e3;have n5:=zh f5;have n6:=zh m3;obtain ⟨Ax2,cx2,rfl,-,-⟩:=f5;have rul:∀W,zp (fun b=>b=go) wm W->W.cell? ⟨gf,of',none⟩=some (.slice Ax2 x.length cx2):=fun W hW=>hW.cellk e9 (by have h1:=k4.out.cb.lo;have h2:=m8.out;show ¬ (gf=go);omega)
         clear hcut e9 l3 m3 e2;have r6:(0:Int)<=1:=by omega
         go_upto_region 19 with fail;refine EW (S:=(fun W=>zp (fun b=>b=go) wm W)) Ag (zp.of_ext (zb.refl wm).drew) fun zH=>?_;have I:zb wm wm.drew:=(zb.refl wm).drew;generalize wm.drew=wd at zH I⊢;refine zf 0 zH ?_;refine zf 1 zH ?_;simp only [za,ED];refine zf 2 zH ?_;refine zf 3 zH ?_;simp only [za,ED];refine zf 4 zH ?_;refine zf 5 zH ?_;simp only [za,ED];refine zf 6 zH ?_;refine zf 7 zH ?_;simp only [za,ED];refine zE 8 fun K hK=>?_;have M:=zh (k4.out.more I);obtain ⟨uo,b9,k9,-⟩:=M.out.cb.at_ (k:=k) (by have:=M.out.len;omega);go_simp;clear b9 k9;refine zae hK (zp.set (zp.of_ext (X:=fun b=>b=go) I) go k (.slice Ax2 x.length cx2) rfl) fun zH=>?_;clear hK K;try simp only [za,ED]
         refine zE 9 fun K hK=>?_;go_simp;refine zae hK (zp.set (zp.of_ext (X:=fun b=>b=go) I) go k (.slice Ax2 x.length cx2) rfl) fun zH=>?_;clear hK K;try simp only [za,ED]
         refine Fk (by kernel_rfl) ?_ _;have a0:Hid (Cr w6 (wd.setCell ⟨go,k,none⟩ (.slice Ax2 x.length cx2)) (gm+2) go B ps t (k+1) fd' (o.set k x) (mvP ps t k x mv) v' u18):=M.out.put E d8.out ((n5.out.below (zb.refl wm)).below I) (n6.out.below I);generalize wd.setCell ⟨go,k,none⟩ (.slice Ax2 x.length cx2)=wz at a0⊢;go_wp2;go_roundw
         case rel=>exact ⟨k+1,fd',o.set k x,_,by go_num,by omega,n1.out,a0.out,Q.out⟩
         case measure=>simp [intOf];omega
    ·obtain rfl:k=ps.length:=by omega
     have j2:Hid (CW ps t (List.range ps.length) fd0 ps []=(o,mv)):=by
      (show _=_)
      rw [i0.out,List.drop_eq_nil_of_le (by simp)];rfl
     have b3:=zh (g5.out.ext hI.out.cb.ext);have z0:=b3.out.cell (k:=0) rfl;have z1:=b3.out.cell (k:=1) rfl;have z2:=b3.out.cell (k:=2) rfl;have fz:=fun j=>b3.out.frozen j
     go_wp2_with fail
     refine CH (P:=fun W=>bodyPost Tryz.prog Tryz.f40 _ Exit.ret _ W) (g2:=gm+1) ?_ b3.out;intro WZ D T a7;have y0:=D.cell (k:=0) rfl;have y1:=D.cell (k:=1) rfl;have y2:=D.cell (k:=2) rfl;refine FC (v:=.tuple #[.slice (some ⟨go,0,none⟩) ps.length ps.length,u18,.agg #[.int .i64 0,.slice none 0 0,.slice none 0 0],.int .i64 0]) (by simp [results,Tryz.results40,go_sem,y0,y1,y2]) rfl ?_;rw [z.out,j2.out];refine ⟨_,_,_,rfl,Below.trans (n9.out.trans hI.out.cb.ext) (T.mono (by have:=b0.out;omega)),?_,?_,Dz.zero _ _⟩
     ·have h:=hI.out.cb.intss ps.length (by rw [hI.out.len];exact EG _) (by have h1:=hI.out.cb.lo;have h2:=g3.out;have h3:=e7.out;omega);rw [hI.out.len] at h;exact h.keep (fun b hb E=>a7 b E (by omega)) |>.weaken (fun b hb=>by have:=b0.out;omega)
     ·exact (AI.of_own hI.out.mo:zj wk _ u18 mv).keep (fun b hb E=>a7 b E (by have h1:=hI.out.lo;have h2:=hI.out.cb.lo;have h3:=zd g5.out;omega)) |>.weaken (fun b hb=>by have h1:=hI.out.lo;have h2:=hI.out.cb.lo;have h3:=e6.out;omega)
end
end Go.Proofs.YthbjngbhbbkkgaaGreat
