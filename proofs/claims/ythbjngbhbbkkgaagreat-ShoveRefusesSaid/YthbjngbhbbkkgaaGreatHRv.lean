import Derived.Test.YthbjngbhbbkkgaaGreatHRu
set_option linter.unusedVariables false
set_option linter.unusedSimpArgs false
set_option maxRecDepth 100000
set_option maxHeartbeats 16000000
namespace Go.Proofs.YthbjngbhbbkkgaaGreat
variable {l:List (List Int×List Int)} {ns:List ByteArray} {ch:List Int} {xs:List Value} {m:MZ} {B cap g n sz:Nat} {ok:Nat->Prop} {r:Option Nat} {f u v vc z0 z1 z2 z3 z4 z5:Value} {w:World}
section
open Go.RowKit
attribute [local go_sem ↓] Go.wp_at_zero Go.wp_at_succ
def TasksN (w:World) (ok:Nat->Prop) (v:Value) (l:List (List Int×List Int)) (ns:List ByteArray):Prop:=
 ns.length=l.length/\∃vs,AI w ok 3 v l.length vs/\∀(i:Nat) x s,l[i]?=some x->ns[i]?=some s->∃u1 u2,vs[i*3]?=some (.string s)/\vs[i*3+1]?=some u1/\vs[i*3+2]?=some u2/\zj w ok u1 x.1/\zj w ok u2 x.2
def MazeN (w:World) (ok:Nat->Prop) (v:Value) (m:MZ) (ns:List ByteArray):Prop:=
 ∃f u t,v=.agg #[.int .i64 m.w,.int .i64 m.h,.int .i64 m.l,f,u,t]/\Bj w ok f m.free/\BB w ok u m.up/\TasksN w ok t m.tasks ns
theorem TasksN.tasks (h:TasksN w ok v l ns):BU w ok v l:=by
 obtain ⟨E,vs,z,he⟩:=h;refine ⟨vs,z,fun i x o=>?_⟩;obtain ⟨D,-⟩:=FD.1 o;obtain ⟨u1,u2,h0,h1,h2,i1,i2⟩:=he i x _ o (EE (by omega));exact ⟨_,u1,u2,h0,h1,h2,i1,i2⟩
theorem MazeN.maze (h:MazeN w ok v m ns):zw w ok v m:=by
 obtain ⟨f,u,t,rfl,h1,h2,h3⟩:=h;exact ⟨f,u,t,rfl,h1,h2,h3.tasks⟩
theorem BU.nets (h:BU w ok v l):∃ns,TasksN w ok v l ns:=by
 obtain ⟨vs,E,he⟩:=h;refine ⟨(List.range l.length).map fun i=>match vs[i*3]? with | some (Value.string s)=>s | _=>(⟨#[]⟩:ByteArray),by simp,vs,E,fun i x s z o=>?_⟩;obtain ⟨s',u1,u2,h0,h1,h2,i1,i2⟩:=he i x z;rw [Fq] at o;obtain ⟨D,-⟩:=FD.1 z;rw [List.getElem?_range D] at o;simp only [Option.map_some,h0] at o;injection o with o;subst o;exact ⟨u1,u2,h0,h1,h2,i1,i2⟩
theorem zw.nets {w:World} {ok:Nat->Prop} {v:Value} {m:MZ} (h:zw w ok v m):∃ns,MazeN w ok v m ns:=by
 obtain ⟨f,u,t,rfl,h1,h2,h3⟩:=h;obtain ⟨ns,o⟩:=h3.nets;exact ⟨ns,f,u,t,rfl,h1,h2,o⟩
theorem TasksN.below {w w':World} {ok:Nat->Prop} {v:Value} {l:List (List Int×List Int)} {ns:List ByteArray} (h:TasksN w ok v l ns) (o:Below w.heap.size w w'):TasksN w' ok v l ns:=by
 obtain ⟨z,vs,D,he⟩:=h;refine ⟨z,vs,D.below o,fun i x s G E=>?_⟩;obtain ⟨u1,u2,h0,h1,h2,i1,i2⟩:=he i x s G E;exact ⟨u1,u2,h0,h1,h2,i1.below o,i2.below o⟩
theorem MazeN.keepW {w':World} {ok':Nat->Prop} (h:MazeN w ok v m ns) (o:zW ok w w') (z:∀b,ok b->ok' b):MazeN w' ok' v m ns:=by
 obtain ⟨f,u,t,rfl,h1,h2,D,vs,E,he⟩:=h;refine ⟨f,u,t,rfl,(h1.keep o).weaken z,(h2.keep o).weaken z,D,vs,(E.keep o).weaken z,fun i x s I G=>?_⟩;obtain ⟨u1,u2,q0,q1,q2,i1,i2⟩:=he i x s I G;exact ⟨u1,u2,q0,q1,q2,(i1.keep o).weaken z,(i2.keep o).weaken z⟩
theorem MazeN.below {w':World} (h:MazeN w ok v m ns) (o:Below w.heap.size w w'):MazeN w' ok v m ns:=h.keepW (zW.of_below o) (fun _ h=>h)
theorem AB {wr w':World} {e:TypeId} (h:wr.ownsRow B e sz v n xs) (G:wr.grownBy w' r) (J:∀b,r=some b->∃t cs,zk wr b t cs/\t≠e):w'.ownsRow B e sz v n xs:=by
 refine h.kept G ?_;rcases h.2 with ⟨rfl,-⟩ | ⟨g,cap,cur,rfl,-,I,-⟩
 ·exact .inl rfl
 ·right
  intro E;obtain ⟨t,cs,D,z⟩:=J g E.symm;have o:wr.heap[g]?=_:=D;rw [I] at o;injection o with o;injection o with _ e2 _;exact z e2.symm
theorem own_blk {wr:World} {e:TypeId} (h:wr.ownsRow B e sz v n xs) {b:Nat} (o:v.ownBlock=some b):∃cs,zk wr b e cs/\B<=b:=by
 rcases h.2 with ⟨rfl,-⟩ | ⟨g,cap,cur,rfl,z,D,-⟩
 ·cases o
 ·have:g=b:=by simpa [Value.ownBlock] using o
  subst this;exact ⟨cur,D,z⟩
theorem grown_ext {w':World} (h:zb w w'):w.grownBy w' none:=⟨h.os,h.tape,h.output,h.size,fun i o _=>h.block i o⟩
theorem Cu (w:World) (g k:Nat) (v:Value):w.grownBy (w.setCell ⟨g,k,none⟩ v) (some g):=⟨rfl,rfl,rfl,by simp,fun i _ o=>EP w ⟨g,k,none⟩ v i (fun e=>o (by rw [e]))⟩
def Cs (w:World) (B:Nat) (v:Value) (l:List Bool):Prop:=w.ownsRow B 4 1 v l.length (l.map Value.bool)
structure SubI (w0 wr:World) (g7:Nat) (W H L:Int) (up:List Bool) (bF vU bT vF vT:Value) (fs:List (List Bool)) (ts:List (List Int×List Int)) (nn:List ByteArray):Prop where
 ext:zb w0 wr
 lo:w0.heap.size<=g7
 box:zk wr g7 32 #[.int .i64 W,.int .i64 H,.int .i64 L,bF,vU,bT]
 up:Cs wr w0.heap.size vU up
 fr:∃vs,wr.ownsRow w0.heap.size 29 1 vF fs.length vs/\∀(i:Nat) x,fs[i]?=some x->∃u,vs[i]?=some u/\Cs wr w0.heap.size u x
 tk:∃vs,wr.ownsRow w0.heap.size 56 3 vT ts.length vs/\nn.length=ts.length/\∀(i:Nat) x s,ts[i]?=some x->nn[i]?=some s->∃u1 u2,vs[i*3]?=some (.string s)/\vs[i*3+1]?=some u1/\vs[i*3+2]?=some u2/\zD wr w0.heap.size u1 x.1/\zD wr w0.heap.size u2 x.2
section
variable {w0 wr w':World} {g7:Nat} {W H L:Int} {up:List Bool} {bF vU bT vF vT vT' vF':Value} {fs:List (List Bool)} {ts:List (List Int×List Int)} {nn:List ByteArray}
theorem SubI.each (h:SubI w0 wr g7 W H L up bF vU bT vF vT fs ts nn) (D:wr.grownBy w' r) (E:∀b,r=some b->∃t cs,zk wr b t cs/\t≠3/\t≠4):
  Cs w' w0.heap.size vU up/\(∀{u:Value} {x:List Bool},Cs wr w0.heap.size u x->Cs w' w0.heap.size u x)/\∀{u:Value} {x:List Int},zD wr w0.heap.size u x->zD w' w0.heap.size u x:=by
 have h1:∀{u:Value} {x:List Bool},Cs wr w0.heap.size u x->Cs w' w0.heap.size u x:=fun z=>AB z D fun b o=>by obtain ⟨t,cs,h1,h2,h3⟩:=E b o;exact ⟨t,cs,h1,h3⟩
 exact ⟨h1 h.up,h1,fun z=>AB z D fun b o=>by obtain ⟨t,cs,h1,h2,h3⟩:=E b o;exact ⟨t,cs,h1,h2⟩⟩
theorem SubI.more (h:SubI w0 wr g7 W H L up bF vU bT vF vT fs ts nn) (z:zb wr w'):SubI w0 w' g7 W H L up bF vU bT vF vT fs ts nn:=by
 have D:=grown_ext z;obtain ⟨h1,h2,h3⟩:=h.each D (fun b o=>by cases o);obtain ⟨vs,M,he⟩:=h.fr;obtain ⟨us,hp,J,G⟩:=h.tk;refine ⟨h.ext.trans z,h.lo,h.box.ext z,h1,⟨vs,AB M D (fun b o=>by cases o),fun i x E=>?_⟩,⟨us,AB hp D (fun b o=>by cases o),J,fun i x s E O=>?_⟩⟩
 ·obtain ⟨u,Q,I⟩:=he i x E;exact ⟨u,Q,h2 I⟩
 ·obtain ⟨u1,u2,q0,q1,q2,i1,i2⟩:=G i x s E O;exact ⟨u1,u2,q0,q1,q2,h3 i1,h3 i2⟩
theorem SubI.addT (h:SubI w0 wr g7 W H L up bF vU bT vF vT fs ts nn) {us:List Value} {x:List Int×List Int} {s:ByteArray} {u1 u2:Value} (U:∀(i:Nat) x s,ts[i]?=some x->nn[i]?=some s->∃u1 u2,us[i*3]?=some (.string s)/\us[i*3+1]?=some u1/\us[i*3+2]?=some u2/\zD wr w0.heap.size u1 x.1/\zD wr w0.heap.size u2 x.2)
  (Q:nn.length=ts.length) (a2:us.length=ts.length*3) (T:wr.ownsRow w0.heap.size 56 3 vT ts.length us) (h1:zD wr w0.heap.size u1 x.1) (h2:zD wr w0.heap.size u2 x.2) (ho:w'.ownsRow w0.heap.size 56 3 vT' (ts.length+1) (us++[.string s,u1,u2])) (E:wr.grownBy w' vT.ownBlock):
  SubI w0 w' g7 W H L up bF vU bT vF vT' fs (ts++[x]) (nn++[s]):=by
 have O:∀b,vT.ownBlock=some b->∃t cs,zk wr b t cs/\t=56:=fun b D=>by obtain ⟨cs,o,-⟩:=own_blk T D;exact ⟨_,cs,o,rfl⟩
 obtain ⟨k1,k2,k3⟩:=h.each E (fun b D=>by obtain ⟨t,cs,o,rfl⟩:=O b D;exact ⟨_,cs,o,by decide,by decide⟩);obtain ⟨vs,M,he⟩:=h.fr;refine ⟨h.ext.grown E h.ext.size (fun k V=>by obtain ⟨cs,-,o⟩:=own_blk T V;exact o),h.lo,?_,k1,⟨vs,AB M E (fun b D=>by obtain ⟨t,cs,o,rfl⟩:=O b D;exact ⟨_,cs,o,by decide⟩),fun i y z=>?_⟩,⟨us++[.string s,u1,u2],by rw [EO];exact ho,by simp [Q],fun i y s' z G=>?_⟩⟩
 ·refine (E.block g7 (zd h.box) (fun e=>?_)).trans h.box;obtain ⟨t,cs,o,rfl⟩:=O g7 e.symm;exact zk.ne_ o h.box (by decide) rfl
 ·obtain ⟨u,hu,I⟩:=he i y z;exact ⟨u,hu,k2 I⟩
 ·by_cases I:i<ts.length
  ·rw [EL I] at z;rw [EL (by omega)] at G;obtain ⟨u1',u2',q0,q1,q2,i1,i2⟩:=U i y s' z G;exact ⟨u1',u2',by rw [EL (by omega)];exact q0,by rw [EL (by omega)];exact q1,by rw [EL (by omega)];exact q2,k3 i1,k3 i2⟩
  ·have J:i=ts.length:=by
    obtain ⟨h,-⟩:=FD.1 z;rw [EO,Ff] at h;omega
   subst J;rw [EM (EG _),Nat.sub_self] at z;rw [EM (by omega),Q,Nat.sub_self] at G;have e1:x=y:=by simpa using z
   have e2:s=s':=by simpa using G
   subst e1 e2;refine ⟨u1,u2,?_,?_,?_,k3 h1,k3 h2⟩
   ·rw [EM (by omega),show ts.length*3 - us.length=0 by omega];rfl
   ·rw [EM (by omega),show ts.length*3+1 - us.length=1 by omega];rfl
   ·rw [EM (by omega),show ts.length*3+2 - us.length=2 by omega];rfl
theorem SubI.addF (h:SubI w0 wr g7 W H L up bF vU bT vF vT fs ts nn) {vs:List Value} {x:List Bool} (he:∀(i:Nat) x,fs[i]?=some x->∃u,vs[i]?=some u/\Cs wr w0.heap.size u x)
  (O:vs.length=fs.length) (Q:wr.ownsRow w0.heap.size 29 1 vF fs.length vs) (h1:Cs wr w0.heap.size u x) (ho:w'.ownsRow w0.heap.size 29 1 vF' (fs.length+1) (vs++[u])) (E:wr.grownBy w' vF.ownBlock):
  SubI w0 w' g7 W H L up bF vU bT vF' vT (fs++[x]) ts nn:=by
 have M:∀b,vF.ownBlock=some b->∃t cs,zk wr b t cs/\t=29:=fun b D=>by obtain ⟨cs,o,-⟩:=own_blk Q D;exact ⟨_,cs,o,rfl⟩
 obtain ⟨k1,k2,k3⟩:=h.each E (fun b D=>by obtain ⟨t,cs,o,rfl⟩:=M b D;exact ⟨_,cs,o,by decide,by decide⟩);obtain ⟨us,J,hn,T⟩:=h.tk;refine ⟨h.ext.grown E h.ext.size (fun k V=>by obtain ⟨cs,-,o⟩:=own_blk Q V;exact o),h.lo,?_,k1,⟨vs++[u],by rw [EO];exact ho,fun i y z=>?_⟩,⟨us,AB J E (fun b D=>by obtain ⟨t,cs,o,rfl⟩:=M b D;exact ⟨_,cs,o,by decide⟩),hn,fun i y s z hs=>?_⟩⟩
 ·refine (E.block g7 (zd h.box) (fun e=>?_)).trans h.box;obtain ⟨t,cs,o,rfl⟩:=M g7 e.symm;exact zk.ne_ o h.box (by decide) rfl
 ·by_cases U:i<fs.length
  ·rw [EL U] at z;obtain ⟨u',hu,G⟩:=he i y z;exact ⟨u',by rw [EL (by omega)];exact hu,k2 G⟩
  ·have I:i=fs.length:=by
    obtain ⟨h,-⟩:=FD.1 z;rw [EO,Ff] at h;omega
   subst I;rw [EM (EG _),Nat.sub_self] at z;have e1:x=y:=by simpa using z
   subst e1;exact ⟨u,by rw [EM (by omega),O,Nat.sub_self];rfl,k2 h1⟩
 ·obtain ⟨u1,u2,q0,q1,q2,i1,i2⟩:=T i y s z hs;exact ⟨u1,u2,q0,q1,q2,k3 i1,k3 i2⟩
theorem SubI.sto (h:SubI w0 wr g7 W H L up bF vU bT vF vT fs ts nn) {k:Nat} {bF' bT':Value} (o:(#[.int .i64 W,.int .i64 H,.int .i64 L,bF,vU,bT]:Array Value).setIfInBounds k v=#[.int .i64 W,.int .i64 H,.int .i64 L,bF',vU,bT']):SubI w0 (wr.setCell ⟨g7,k,none⟩ v) g7 W H L up bF' vU bT' vF vT fs ts nn:=by
 have D:=Cu wr g7 k v;have E:∀b,some g7=some b->∃t cs,zk wr b t cs/\t=32:=fun b o=>by injection o with o;subst o;exact ⟨_,_,h.box,rfl⟩
 obtain ⟨k1,k2,k3⟩:=h.each D (fun b o=>by obtain ⟨t,cs,z,rfl⟩:=E b o;exact ⟨_,cs,z,by decide,by decide⟩);obtain ⟨vs,O,he⟩:=h.fr;obtain ⟨us,hp,M,I⟩:=h.tk;refine ⟨h.ext.setCell (p:=⟨g7,k,none⟩) h.lo _,h.lo,by have:=h.box.set (k:=k) v;rwa [o] at this,k1,⟨vs,AB O D (fun b o=>by obtain ⟨t,cs,z,rfl⟩:=E b o;exact ⟨_,cs,z,by decide⟩),fun i x G=>?_⟩,⟨us,AB hp D (fun b o=>by obtain ⟨t,cs,z,rfl⟩:=E b o;exact ⟨_,cs,z,by decide⟩),M,fun i x s G Q=>?_⟩⟩
 ·obtain ⟨u,T,J⟩:=he i x G;exact ⟨u,T,k2 J⟩
 ·obtain ⟨u1,u2,q0,q1,q2,i1,i2⟩:=I i x s G Q;exact ⟨u1,u2,q0,q1,q2,k3 i1,k3 i2⟩
theorem SubI.maze (h:SubI w0 wr g7 W H L up vF vU vT vF vT fs ts nn):MazeN wr (fun b=>w0.heap.size<=b) (.agg #[.int .i64 W,.int .i64 H,.int .i64 L,vF,vU,vT]) ⟨W,H,L,fs,up,ts⟩ nn:=by
 obtain ⟨vs,G,he⟩:=h.fr;obtain ⟨us,hp,E,z⟩:=h.tk;refine ⟨_,_,_,rfl,⟨vs,AI.of_own G,fun i x o=>?_⟩,AI.of_own h.up,E,us,AI.of_own hp,fun i x s o I=>?_⟩
 ·obtain ⟨u,J,D⟩:=he i x o;exact ⟨u,J,AI.of_own D⟩
 ·obtain ⟨u1,u2,q0,q1,q2,i1,i2⟩:=z i x s o I;exact ⟨u1,u2,q0,q1,q2,AI.of_own i1,AI.of_own i2⟩
end
theorem DP {l:List Bool} (w:World) (h:BB w ok v l) (U:l.length<=100000000000):
  Calls Tryz.prog 45 #[v] w fun e w'=>∃v',e=.returned v'/\zb w w'/\Cs w' w.heap.size v' l:=by
 have H:=zh h;have J:=nilEq 29 4 Tryz.underlying29;obtain ⟨A,c,rfl,T,E⟩:=h;rcases A with _ | a
 ·have D:l=[]:=by
   rcases Fs l.length with h | h
   ·exact EX h
   ·obtain ⟨b,off,e,_⟩:=E.2 h;cases e
  subst D;clear E
  go_enter Tryz.func45,Tryz.ntmps45
  go_wp2_with fail
  go_ret;exact ⟨_,rfl,zb.refl _,World.ownsRow_nil _ _ _ _⟩
 ·clear E;have V:=zb.refl w;have o:∀u∈l.map Value.bool,u.oneCell'=true:=fun u Q=>by obtain ⟨b,-,rfl⟩:=FH.1 Q;rfl
  have z:=zh o;clear o
  go_enter Tryz.func45,Tryz.ntmps45
  go_wp2_with (at_builtin;refine wpList_append_row (ok:=ok) rfl _ _ _ eBool rfl w.heap.size 0 l.length [] (l.map Value.bool) _ _ rfl rfl (own_emptyT w w.heap.size 4 1 (EG _)) (BB.below H.out ((zb.refl w).alloc _)) z.out ?d1 ?d2 ?d3 ?_)
  case d1=>simp
  case d2=>unfold maxLen;omega
  case d3=>omega
  intro v' w1 M I _
  have G:Hid (zb w w1/\Cs w1 w.heap.size v' l):=⟨Ad ((zb.refl w).alloc _) I (by simp) (fun k O=>slice_own O),by
   have:=M
   try rw [Nat.zero_add] at this
   try rw [List.nil_append] at this
   exact this⟩
  clear M I
  go_wp2_with fail
  go_ret;exact ⟨_,rfl,G.out.1,G.out.2⟩
theorem sto6 {W:World} {t:TypeId} {a b c d e:Value} (o:zk W g t #[z0,z1,z2,z3,z4,z5]):
  zk ((((((W.setCell ⟨g,0,none⟩ a).setCell ⟨g,1,none⟩ b).setCell ⟨g,2,none⟩ c).setCell ⟨g,3,none⟩ d).setCell ⟨g,4,none⟩ e).setCell ⟨g,5,none⟩ f) g t #[a,b,c,d,e,f]/\
  W.grownBy ((((((W.setCell ⟨g,0,none⟩ a).setCell ⟨g,1,none⟩ b).setCell ⟨g,2,none⟩ c).setCell ⟨g,3,none⟩ d).setCell ⟨g,4,none⟩ e).setCell ⟨g,5,none⟩ f) (some g):=by
 exact ⟨(((((o.set (k:=0) a).set (k:=1) b).set (k:=2) c).set (k:=3) d).set (k:=4) e).set (k:=5) f,
  (((((Cu _ g 0 a).trans (Cu _ g 1 b)).trans (Cu _ g 2 c)).trans (Cu _ g 3 d)).trans (Cu _ g 4 e)).trans (Cu _ g 5 f)⟩
theorem SubI.start {w0 wr:World} {g7:Nat} {W H L:Int} {up:List Bool} {vU:Value} (D:zb w0 wr) (o:w0.heap.size<=g7) (E:zk wr g7 32 #[.int .i64 W,.int .i64 H,.int .i64 L,.slice none 0 0,vU,.slice none 0 0]) (G:Cs wr w0.heap.size vU up):
  SubI w0 wr g7 W H L up (.slice none 0 0) vU (.slice none 0 0) (.slice none 0 0) (.slice none 0 0) [] [] []:=
 ⟨D,o,E,G,⟨[],World.ownsRow_nil _ _ _ _,fun i x z=>by simp at z⟩,⟨[],World.ownsRow_nil _ _ _ _,rfl,fun i x s z=>by simp at z⟩⟩
end
section
open Go.RowKit Go.Shelf Go.Sort
attribute [local go_sem ↓] Go.wp_at_zero Go.wp_at_succ
def dfLA_ren:Go.Shelf.Ren:=⟨fun | 10=>113 | 6=>132 | n=>n,fun | 22=>22 | 23=>23 | 25=>114 | 3=>3 | 4=>4 | 0=>0 | n=>n,fun | n=>n⟩
theorem dfLA:Go.Proofs.SlLaysH.n10 Tryz.prog dfLA_ren:={
 mixed:=by kernel_rfl
 f6:=⟨Tryz.f132.name,by decide,Tryz.func132.trans (congrArg some (by kernel_rfl))⟩
 f10:=⟨Tryz.f113.name,by decide,Tryz.func113.trans (congrArg some (by kernel_rfl))⟩
 t0:=Tryz.underlying0
 a0:=Tryz.isAgg0
 z0:=Tryz.sizeOf0
 v0:=Tryz.zeroValue0
 t3:=Tryz.underlying3
 a3:=Tryz.isAgg3
 z3:=Tryz.sizeOf3
 v3:=Tryz.zeroValue3
 t4:=Tryz.underlying4
 a4:=Tryz.isAgg4
 z4:=Tryz.sizeOf4
 v4:=Tryz.zeroValue4
 t22:=Tryz.underlying22
 a22:=Tryz.isAgg22
 z22:=Tryz.sizeOf22
 v22:=Tryz.zeroValue22
 a23:=Tryz.isAgg23
 z23:=Tryz.sizeOf23
 t25:=Tryz.underlying114
 a25:=Tryz.isAgg114
 z25:=Tryz.sizeOf114
 v25:=Tryz.zeroValue114 }
abbrev SlV:={ v:Value // ∃A n c,v=.slice A n c }
def slLen (v:Value):Nat:=match v with | .slice _ n _=>n | _=>0
theorem holds_sl {l:List SlV} [Inhabited SlV] (h:Cd w B (.slice (some ⟨g,0,none⟩) (l.map (·.1)).length cap) (l.map (·.1))):Holds (fun x:SlV=>x.1) w g 0 l.toArray:=by
 intro j z;have o:j<l.length:=by simpa using z
 refine ⟨?_,by have:=World.ownsRow.frozenAt h j;simpa using this⟩;have:=World.ownsRow.cellAt h j (by simpa using o);rw [Nat.zero_add,this];simp [getElem!_pos,o]
theorem cf75 (a:Array Value) (w:World):(callFunc 114 a).run Tryz.prog w=.ok (.enter 114 a) w:=Ar Tryz.func114 (by kernel_rfl) (by kernel_rfl) a w
theorem paths1_sl (x:SlV) (w:World):Calls Tryz.prog 114 (#[x.1]++#[]) w fun e w'=>e=.returned (.bool (decide (slLen x.1=0)))/\w=w':=by
 obtain ⟨_,A,n,c,rfl⟩:=x;show Calls Tryz.prog 114 #[.slice A n c] w _;by_cases o:n=0
 ·subst o
  go_enter Tryz.func114,Tryz.ntmps114
  go_wp2;go_ret;exact ⟨rfl,rfl⟩
 ·have z:((n:Int)==0)=false:=by rw [ET];omega
  have H:Hid (decide (slLen (.slice A n c)=0)=false):=EK o;clear o
  go_enter Tryz.func114,Tryz.ntmps114
  go_wp2;go_ret;exact ⟨ze H.out.symm,rfl⟩
theorem deleteFuncL_calls {l:List SlV} (D:Cd w B (.slice (some ⟨g,0,none⟩) (l.map (·.1)).length cap) (l.map (·.1))) (O:l.length<=1000000):
  Calls Tryz.prog 113 #[.slice (some ⟨g,0,none⟩) (l.map (·.1)).length cap,.func (.func 114) #[] #[]] w fun e w'=>∃v',e=.returned v'/\Cd w' B v' ((l.filter fun x=>!decide (slLen x.1=0)).map (·.1))/\Below B w w':=by
 letI:Inhabited SlV:=⟨⟨.slice none 0 0,_,_,_,rfl⟩⟩
 have z:=Ck D;have I:B<=g:=(World.ownsRow.lt D g rfl).1;have o:(l.map (·.1)).length=l.toArray.size:=by simp
 have E:=AnyE.slices_DeleteFunc dfLA (fun x:SlV=>x.1) (fun x=>by obtain ⟨_,A,n,c,rfl⟩:=x;rfl) (fun x=>decide (slLen x.1=0)) 114 #[] cf75 ⟨.slice none 0 0,_,_,_,rfl⟩ Tryz.zeroValue23 g 0 cap l.toArray w
  (fun W x M=>by
   refine Calls.mono (paths1_sl x W) ?_;rintro e w' ⟨rfl,rfl⟩;exact ⟨rfl,0,rfl⟩)
  (fun n os dk x _=>by
   refine Calls.mono (paths1_sl x _) ?_;rintro e w' ⟨rfl,rfl⟩;exact ⟨rfl,0,rfl⟩)
  (holds_sl D) (by rw [<-o];simp;omega) (by rw [<-o];exact z)
 change Calls Tryz.prog 113 _ _ _ at E;rw [<-o] at E;refine Calls.mono E ?_;rintro e w' ⟨rfl,q,rfl⟩;have G:(l.filter fun x=>!decide (slLen x.1=0)).length<=l.length:=Fi _ _;have J:w.ownsRow B 23 1 (.slice (some ⟨g,0,none⟩) (l.map (·.1)).length cap) (l.map (·.1)).length (l.map fun x:SlV=>x.1):=D;refine ⟨_,rfl,?_,Lib.below_putRow (Below.refl _ _) I⟩;have:=Lib.ownsRow_putRow (enc:=fun x:SlV=>x.1) (q:=q) (k:=(l.filter fun x=>!decide (slLen x.1=0)).length) (ys:=(l.filter fun x=>!decide (slLen x.1=0))++List.replicate (l.length - (l.filter fun x=>!decide (slLen x.1=0)).length) ⟨.slice none 0 0,_,_,_,rfl⟩) J (by simp;omega) (by simpa using G);rw [List.take_left' rfl] at this;unfold Cd;rw [Fr];simpa using this
theorem deleteFuncL_nil (A:Option Addr) (c:Nat) (w:World):
  Calls Tryz.prog 113 #[.slice A 0 c,.func (.func 114) #[] #[]] w fun e w'=>e=.returned (.slice A 0 c)/\zb w w':=by
 have hI:Hid (∀w,Calls Tryz.prog 132 #[.slice A 0 c,.func (.func 114) #[] #[]] w fun e w'=>e=.returned (.int .i64 (-1))/\zb w w'):=fun w=>by
  go_enter Tryz.func132,Tryz.ntmps132
  go_wp2_with fail
  go_loopg [8] 0 (fun gk v wr=>v=.int .i64 0/\gk=0/\Hid (zb w wr))
  case atStart=>exact ⟨rfl,rfl,zb.refl _⟩
  case round=>
   obtain ⟨rfl,rfl,z⟩:=hrel
   go_wp2_with fail
   go_ret;exact ⟨rfl,z.out⟩
 go_enter Tryz.func113,Tryz.ntmps113
 go_wp2_with fail
 refine (hI.out w).mono ?_;rintro e w2 ⟨rfl,o⟩
 go_wp2_with fail
 go_ret;exact ⟨rfl,o⟩
def PathsPostY (Y:Nat->Prop) (w:World) (m:MZ) (ch:List Int) (e:Ending) (w':World):Prop:=
 ∃v,e=.returned (.tuple #[v,.bool (EA m ch)])/\zb w w'/\zv w' (fun b=>Y b\/w.heap.size<=b) v (zq m ch)
theorem filter_pair {w:World} {ok:Nat->Prop}:∀(l:List SlV) (ps:List (List Int)),l.length=ps.length->(∀(i:Nat) x,ps[i]?=some x->∃u,(l.map (·.1))[i]?=some u/\zj w ok u x)->
  ((l.filter fun x=>!decide (slLen x.1=0)).length=(ps.filter fun p=>decide (p.length≠0)).length)/\∀(i:Nat) x,(ps.filter fun p=>decide (p.length≠0))[i]?=some x->∃u,((l.filter fun x=>!decide (slLen x.1=0)).map (·.1))[i]?=some u/\zj w ok u x
 | [],[],_,_=>⟨rfl,fun i x o=>by simp at o⟩
 | a :: l,p :: ps,G,h=>by
  obtain ⟨h1,h2⟩:=filter_pair l ps (by simpa using G) (fun i x o=>by simpa using h (i+1) x (by simpa using o));obtain ⟨u,I,E⟩:=h 0 p rfl;have D:a.1=u:=by simpa using I
  have z:slLen a.1=p.length:=by
   obtain ⟨A,c,e,_⟩:=id E;rw [D,e];rfl
  by_cases hp:p.length=0
  ·rw [Fp (by simp [z,hp]),Fp (by simp [hp])];exact ⟨h1,h2⟩
  ·rw [FB (by simp [z,hp]),FB (by simp [hp])];refine ⟨by simp [h1],fun i x o=>?_⟩
   match i,o with
   | 0,o=>
    have:p=x:=by simpa using o
    subst this;exact ⟨u,by simp [D],E⟩
   | i+1,o=>simpa using h2 i x (by simpa using o)
theorem rPathsY_calls {okc Y:Nat->Prop} (w:World) (hm:zw w Y v m) (T:Lens m) (a9:zj w okc vc ch) (d5:ch.length<=20000000000000):
  Calls Tryz.prog 89 #[v,vc] w (PathsPostY Y w m ch):=by
 have c0:=zh hm;obtain ⟨vfr,vup,vts,rfl,-,-,-⟩:=hm;have b5:=zh a9;obtain ⟨A,c,rfl,e8,-⟩:=a9;have HL:=zh T;clear T
 go_enter Tryz.func89,Tryz.ntmps89
 go_wp2_with fail
 generalize b2:w.alloc (.cells #[.int .i64 m.w,.int .i64 m.h,.int .i64 m.l,vfr,vup,vts] 32)=wa;have I:zb w wa:=by rw [<-b2];exact (zb.refl w).alloc _
 have b7:Hid (w.heap.size<=wa.heap.size):=I.size;clear b2;refine (stateOf_calls wa (c0.out.below I) HL.out (b5.out.below I) d5).mono ?_;rintro e w1 ⟨v1,rfl,b3,h1⟩;have H1:=zh h1;have G:zb w w1:=I.trans b3;have a3:Hid (w.heap.size<=w1.heap.size):=G.size;clear h1 b3;obtain ⟨bb,U⟩:=zad (EA m ch);rw [<-U] at H1⊢;have o:=zh U;clear U;cases bb
 ·have z:Hid (PathsPostY Y w m ch (.returned (.tuple #[.slice none 0 0,.bool false])) w1):=⟨_,by rw [<-o.out],G,by unfold zq;rw [<-o.out];exact ⟨[],⟨none,0,rfl,EG _,Ae.nil _ _ _ _⟩,fun i x hx=>by simp at hx⟩⟩
  go_wp2_with fail
  go_ret2
  exact z.out
 ·have E:∃p,v1=.pointer (some ⟨p,0,none⟩)/\EC w1 (fun b=>Y b\/wa.heap.size<=b) p m ch:=by
   rcases H1.out with ⟨h,_⟩ | ⟨_,h⟩
   ·cases h
   ·exact h
  obtain ⟨p,rfl,us,f,u,t,vc',vp,gu,d6,E⟩:=E;obtain ⟨r0,r1,r2,r3,r4,r5,r6,r7,r8⟩:=E.rules;obtain ⟨hg,hc⟩:=DL o.out.symm;obtain ⟨vs,⟨Ap,cp,rfl,c7,a0⟩,V⟩:=E.ps;have a1:vs.length=(zP m ch).length:=by have:=a0.1;omega
  have e3:(zP m ch).length<=6:=EI hc.psOk.pl hg.tk
  have a4:Hid (AI w1 (fun b=>Y b\/wa.heap.size<=b) 1 (.slice Ap (zP m ch).length cp) vs.length vs):=by
   show AI _ _ _ _ _ _;rw [a1];exact ⟨Ap,cp,rfl,c7,a0⟩
  have b8:=zh V
  have a7:∀u∈vs,∃A n c,u=.slice A n c:=fun u hu=>by
   obtain ⟨i,hi,rfl⟩:=Fm hu;obtain ⟨u',h1,A',c',e,_⟩:=V i _ (EE (by omega));rw [EE hi] at h1;injection h1 with h1;exact ⟨_,_,_,h1.trans e⟩
  have a5:=zh a7;have a6:=zh a1;have c4:Hid (zq m ch=(zP m ch).filter fun p=>decide (p.length≠0)):=by show _=_;unfold zq;rw [if_pos o.out.symm]
  clear E d6 hg hc H1 V a0 a7 a1;have e4:=zb.refl w1
  go_wp2_with fail
  refine (cloneL_calls w1 a4.out (fun u hu=>by obtain ⟨A,n,c,rfl⟩:=a5.out u hu;rfl) (by have:=a6.out;omega)).mono ?_;rintro e w2 ⟨v2,rfl,O,D⟩;obtain ⟨l,T⟩:∃l:List SlV,l.map (·.1)=vs:=⟨vs.attachWith _ a5.out,by simp⟩;have b0:l.length=(zP m ch).length:=by have:=congrArg List.length T;have:=a6.out;simp at *;omega
  have a8:=filter_pair (w:=w1) (ok:=fun b=>Y b\/wa.heap.size<=b) l (zP m ch) b0 (by rw [T];exact b8.out);have b9:=zh a8;have e6:zb w w2:=G.trans O
  have M:∃v3 w3,Calls Tryz.prog 113 #[v2,.func (.func 114) #[] #[]] w2 (fun e w'=>∃v',e=.returned v'/\Cd w' w1.heap.size v' ((l.filter fun x=>!decide (slLen x.1=0)).map (·.1))/\zb w1 w')/\v3=v2/\w3=w2:=by
   refine ⟨v2,w2,?_,rfl,rfl⟩;rcases Fs vs.length with h0 | h0
   ·have d7:=EX h0;subst d7;have d4:l=[]:=EX (by have:=congrArg List.length T;simpa using this);subst d4;obtain ⟨A',c',rfl,e7,-⟩:=AI.of_own D;refine (deleteFuncL_nil A' c' w2).mono ?_;rintro e w3 ⟨rfl,hE⟩;exact ⟨_,rfl,Cd.ext D hE,O.trans hE⟩
   ·have Q:=D;unfold Cd at Q;obtain ⟨g,cap,rfl,hg,e9⟩:=World.ownsRow.form Q h0;subst T;refine (deleteFuncL_calls D (by omega)).mono ?_;rintro e w3 ⟨v3,rfl,J,c6⟩;exact ⟨_,rfl,J,Below.trans O c6⟩
  obtain ⟨_,_,M,_,_⟩:=M;have b6:=zh M;clear D M O T b0 a8
  go_wp2_with fail
  refine b6.out.mono ?_;rintro e w3 ⟨v3,rfl,J,a2⟩
  have z:Hid (PathsPostY Y w m ch (.returned (.tuple #[v3,.bool true])) w3):=by
   refine ⟨v3,by rw [<-o.out],G.trans a2,?_⟩;rw [c4.out];obtain ⟨h1,h2⟩:=b9.out;have h3:AI w3 (fun b=>Y b\/w.heap.size<=b) 1 v3 (((l.filter fun x=>!decide (slLen x.1=0)).map (·.1)).length) ((l.filter fun x=>!decide (slLen x.1=0)).map (·.1)):=(AI.of_own J).weaken fun b hb=>.inr (EI a3.out hb)
   rw [Fr,h1] at h3
   exact ⟨_,h3,fun i x hx=>by
    obtain ⟨u,hu,hi⟩:=h2 i x hx;exact ⟨u,hu,(hi.weaken fun b hb=>hb.imp id (fun h=>EI b7.out h)).below a2⟩⟩
  clear J a2
  go_wp2_with fail
  go_ret2
  exact z.out
end
section
open Go.RowKit
attribute [local go_sem ↓] Go.wp_at_zero Go.wp_at_succ
theorem AG (o:AO m=0) (h:zx m ch):(zq m ch).length<=m.tasks.length/\m.tasks.length<=6/\ch.length<=300/\∀x∈zq m ch,x≠[]/\x.length<=1000:=by
 have g:=zC.of o;have h1:=h.psOk;have h2:=h.len300 g;unfold zq;rw [if_pos (okC_of o h)];refine ⟨EI (Fi _ _) h1.pl,g.tk,h2,fun x z=>⟨?_,?_⟩⟩
 ·have:=(FG.1 z).2;rintro rfl;simp at this
 ·have h3:=flat_le (FG.1 z).1;rw [h1.fl] at h3;omega
structure PSt (w:World) (ok:Nat->Prop) (m:MZ) (f u ts vc vp:Value) (ch:List Int):Prop where
 maze:zw w ok (.agg #[.int .i64 m.w,.int .i64 m.h,.int .i64 m.l,f,u,ts]) m
 chs:zj w ok vc ch
 ps:zv w ok vp (zq m ch)
def Ey (m:MZ) (f u ts vc vp:Value) (t:Int):Value:=.agg #[.int .i64 m.w,.int .i64 m.h,.int .i64 m.l,f,u,ts,vc,vp,.int .i64 t]
theorem PSt.more {w':World} {ts vp:Value} (h:PSt w ok m f u ts vc vp ch) (o:zb w w'):PSt w' ok m f u ts vc vp ch:=⟨h.maze.below o,h.chs.below o,h.ps.below o⟩
def setL (g:Nat):Nat->List Value->World->World
 | _,[],W=>W
 | k,v :: vs,W=>setL g (k+1) vs (W.setCell ⟨g,k,none⟩ v)
theorem Dw (g:Nat):∀(vs:List Value) (k:Nat) (W:World),Below g W (setL g k vs W)
 | [],_,W=>Below.refl g W
 | v :: vs,k,W=>((Below.refl g W).setCell (p:=⟨g,k,none⟩) (EG _) v).trans (Dw g vs (k+1) _)
theorem Dx (g:Nat) (b:Nat) (o:b≠g):∀(vs:List Value) (k:Nat) (W:World),(setL g k vs W).heap[b]?=W.heap[b]?
 | [],_,W=>rfl
 | v :: vs,k,W=>(Dx g b o vs (k+1) _).trans (EP W ⟨g,k,none⟩ v b o)
theorem setL_blk {g:Nat} {t:TypeId}:∀(vs:List Value) (us ws:List Value) (W:World),us.length=vs.length->zk W g t (ws++us).toArray->zk (setL g ws.length vs W) g t (ws++vs).toArray
 | [],us,ws,W,o,h=>by
  have:us=[]:=List.length_eq_zero_iff.1 o;subst this;exact h
 | v :: vs,us,ws,W,o,h=>by
  match us,o,h with
  | u :: us,o,h=>
   have h1:=h.set (k:=ws.length) v;rw [List.setIfInBounds_toArray,List.set_append_right _ _ (EG _),Nat.sub_self,List.set_cons_zero] at h1;have h2:=setL_blk vs us (ws++[v]) _ (by simpa using o) (by rw [List.append_assoc];exact h1);rw [List.append_assoc,EO] at h2;exact h2
theorem case_fin9 {P:World->Prop} {W:World} {g2:Nat} {t:TypeId} {a0 a1 a2 a3 a4 a5 a6 a7 a8 z6 z7 z8:Value} (h:∀WZ,zk WZ g2 t #[a0,a1,a2,a3,a4,a5,a6,a7,a8]->Below g2 W WZ->(∀k,k<W.heap.size->k≠g2->WZ.heap[k]?=W.heap[k]?)->P WZ) (z:zk W g2 t #[z0,z1,z2,z3,z4,z5,z6,z7,z8]):
  P (((((((((W.setCell ⟨g2,0,none⟩ a0).setCell ⟨g2,1,none⟩ a1).setCell ⟨g2,2,none⟩ a2).setCell ⟨g2,3,none⟩ a3).setCell ⟨g2,4,none⟩ a4).setCell ⟨g2,5,none⟩ a5).setCell ⟨g2,6,none⟩ a6).setCell ⟨g2,7,none⟩ a7).setCell ⟨g2,8,none⟩ a8):=
 h (setL g2 0 [a0,a1,a2,a3,a4,a5,a6,a7,a8] W) (setL_blk [a0,a1,a2,a3,a4,a5,a6,a7,a8] [z0,z1,z2,z3,z4,z5,z6,z7,z8] [] W rfl z) (Dw g2 _ 0 W) (fun k _ o=>Dx g2 k o _ 0 W)
theorem of_calls {ts:Value} (w:World) (hm:zw w ok (.agg #[.int .i64 m.w,.int .i64 m.h,.int .i64 m.l,f,u,ts]) m) (hl:Lens m) (hc:AO m=0) (f4:zj w ok vc ch) (hi:zx m ch):
  Calls Tryz.prog 66 #[.agg #[.int .i64 m.w,.int .i64 m.h,.int .i64 m.l,f,u,ts],vc] w fun e w'=>∃vp,e=.returned (Ey m f u ts vc vp (zR m ch))/\zb w w'/\PSt w' (fun b=>ok b\/w.heap.size<=b) m f u ts vc vp ch:=by
 have b6:=zh hm;have HL:=zh hl;have e9:=zh (AG hc hi);have b2:=zh f4;obtain ⟨Af,cf,Au,cu,At,ct,e,-,-,g0⟩:=hm.parts;injection e with e;injection e with e;simp only [List.cons.injEq,and_true,true_and] at e;obtain ⟨rfl,rfl,rfl⟩:=e;have h8:=zh g0;obtain ⟨Ac,cc,rfl,-,-⟩:=f4;clear hm hl hc hi g0
 go_enter Tryz.func66,Tryz.ntmps66
 go_wp2_with fail
 obtain ⟨d7,r0,r1,r2,r3,r4,r5⟩:=box6 w (.int .i64 m.w) (.int .i64 m.h) (.int .i64 m.l) (.slice Af m.free.length cf) (.slice Au m.up.length cu) (.slice At m.tasks.length ct);have e6:(w.alloc (.cells #[.int .i64 m.w,.int .i64 m.h,.int .i64 m.l,.slice Af m.free.length cf,.slice Au m.up.length cu,.slice At m.tasks.length ct] 32)).heap.size=w.heap.size+1:=by simp
 generalize w.alloc _=w1 at d7 r0 r1 r2 r3 r4 r5 e6⊢;have o:=zk.new w1 #[.int .i64 0,.int .i64 0,.int .i64 0,.slice none 0 0,.slice none 0 0,.slice none 0 0,.slice none 0 0,.slice none 0 0,.int .i64 0] 103 (g:=w1.heap.size) rfl;have a6:zb w1 (w1.alloc (.cells #[.int .i64 0,.int .i64 0,.int .i64 0,.slice none 0 0,.slice none 0 0,.slice none 0 0,.slice none 0 0,.slice none 0 0,.int .i64 0] 103)):=(zb.refl w1).alloc _;generalize w1.alloc _=w2 at o a6⊢;rw [e6] at o;have a4:=zh (d7.trans a6);have M:=zh a6;have HZ:=zh o;obtain ⟨gm,e0⟩:=zad w.heap.size;rw [<-e0] at r0 r1 r2 r3 r4 r5 HZ⊢;have Q:Hid (gm=w.heap.size):=e0;have r0:=fun W h=>r0 W (M.out.trans h)
 have r1:=fun W h=>r1 W (M.out.trans h)
 have r2:=fun W h=>r2 W (M.out.trans h)
 have r3:=fun W h=>r3 W (M.out.trans h)
 have r4:=fun W h=>r4 W (M.out.trans h)
 have r5:=fun W h=>r5 W (M.out.trans h)
 clear e0 e6 o d7 a6;refine (rPathsY_calls (Y:=fun b=>ok b/\b<w.heap.size) w2 (b6.out.bound.below a4.out) HL.out (b2.out.below a4.out) (by have:=e9.out;omega)).mono ?_;rintro e w3 ⟨vp,rfl,b9,a9⟩;have a9:=a9.weaken (fun b E=>(by have:=Q.out;have:=HZ.out;have:=zd this;have:=a4.out.size;exact ⟨E.imp (fun h=>h.1) (fun h=>by omega),by omega⟩:(ok b\/w.heap.size<=b)/\b≠gm+1));have f0:=zh a9;obtain ⟨vps,⟨Ap,cp,rfl,-,f7⟩,f5⟩:=a9;have f1:=zh f7;have h5:=zh f5;have I:=zh (a4.out.trans b9);clear f7 f5
 go_wp2_with fail
 have a5:=zk.new w3 #[.int .i64 m.w,.int .i64 m.h,.int .i64 m.l,.slice Af m.free.length cf,.slice Au m.up.length cu,.slice At m.tasks.length ct,.slice Ac ch.length cc,.slice Ap (zq m ch).length cp,.int .i64 0] 103 (g:=w3.heap.size) rfl;have d8:zb w3 (w3.alloc (.cells #[.int .i64 m.w,.int .i64 m.h,.int .i64 m.l,.slice Af m.free.length cf,.slice Au m.up.length cu,.slice At m.tasks.length ct,.slice Ac ch.length cc,.slice Ap (zq m ch).length cp,.int .i64 0] 103)):=(zb.refl w3).alloc _;generalize w3.alloc _=w4 at a5 d8⊢;obtain ⟨gs,e3⟩:=zad w3.heap.size;rw [<-e3] at a5⊢;have h6:Hid (gs=w3.heap.size):=e3;have g6:=zh d8;have e8:=zh a5;have b5:=zh b9;obtain ⟨PL,d5⟩:=zad ((zq m ch).length);rw [<-d5] at f1 e8⊢;have O:=zh d5;clear e3 a5 d8 b9 d5;go_loopw [18] (fun _ wr=>∃k:Nat,k<=PL/\Hid (curF m (zq m ch) (PL - k) k=zR m ch)/\Hid (zb w3 wr)/\Hid (zk wr gs 103 #[.int .i64 m.w,.int .i64 m.h,.int .i64 m.l,.slice Af m.free.length cf,.slice Au m.up.length cu,.slice At m.tasks.length ct,.slice Ac ch.length cc,.slice Ap PL cp,.int .i64 k])) (fun _ wr=>match wr.cell? ⟨gs,8,none⟩ with | some (.int _ i)=>PL - i.toNat | _=>0)
 case atStart=>exact ⟨0,EU _,by show _=_;rw [O.out];rfl,g6.out,e8.out⟩
 case round=>
  obtain ⟨k,hk,a0,hE,U⟩:=hrel;have c0:=U.out.cell (k:=0) rfl;have c1:=U.out.cell (k:=1) rfl;have c2:=U.out.cell (k:=2) rfl;have c3:=U.out.cell (k:=3) rfl;have c4:=U.out.cell (k:=4) rfl;have c5:=U.out.cell (k:=5) rfl;have c6:=U.out.cell (k:=6) rfl;have c7:=U.out.cell (k:=7) rfl;have c8:=U.out.cell (k:=8) rfl;by_cases a3:k<PL
  ·obtain ⟨j8,k3,-,f6⟩:=e9.out;have a2:k<m.tasks.length:=by have:=O.out;omega
   have a7:k<(zq m ch).length:=by have:=O.out;omega
   obtain ⟨bt,offt,sn,u1,u2,rfl,-,-,-,f3,-,e4⟩:=AJ h8.out a2;obtain ⟨bp,offp,up,rfl,-,d9,g3⟩:=Ai f1.out h5.out a3 a7;obtain ⟨a8,b0⟩:=f6 _ (EH a7);have i2:=(HL.out.tl _ (EH a2)).2
   have J:Hid (endB m (zq m ch) k=match ((zq m ch)[k]).getLast? with | none=>false | some x=>decide (x∈(m.tasks[k]).2)):=by
    show _=_;unfold endB;rw [EF,EE a7,EF,EE a2];rfl
   obtain ⟨P,hP⟩:=zad ((zq m ch)[k]);obtain ⟨T,hT⟩:=zad ((m.tasks[k]).2);rw [<-hP] at g3 a8 b0 J;rw [<-hT] at e4 i2 J;clear hP hT f6;obtain ⟨q,x,rfl⟩:∃q x,P=q++[x]:=⟨P.dropLast,P.getLast a8,(List.dropLast_concat_getLast a8).symm⟩
   have b4:Hid (endB m (zq m ch) k=decide (x∈T)):=by
    have:=J.out;rw [List.getLast?_append] at this;exact this
   clear J a8;obtain ⟨Aq,cq,rfl,i0,f9⟩:=g3;obtain ⟨bq,offq,e,-,a1⟩:=zy f9 (k:=q.length) (by simp) (by simp);have a1:w3.cell? ⟨bq,offq+q.length,none⟩=some (.int .i64 x):=by rw [a1];simp
   subst e;obtain ⟨N,hN⟩:=zad ((q++[x]).length);obtain ⟨n,hn⟩:=zad q.length;have f2:N=n+1:=by rw [hN,hn];simp
   rw [<-hN] at d9 b0;rw [<-hn] at a1;clear f9 i0 hN hn;have h7:=zh ((e4.below I.out).below hE.out);obtain ⟨Au2,cu2,rfl,-,-⟩:=e4;have q5:=zb.rule (r5 wr (b5.out.trans hE.out));have q8:=zb.rule c8;have g8:=zh c8;have qt:=zb.rule (hE.out.cell (I.out.cell f3));have qp:=zb.rule (hE.out.cell d9);have qx:=zb.rule (hE.out.cell a1);have hx:zb wr wr:=zb.refl wr;have j3:=zh r5;clear r0 r1 r2 r3 r4 r5 c0 c1 c2 c3 c4 c5 c6 c7 f3 d9 a1;have j5:(k:Int)<(PL:Int):=by omega
   have j4:(0:Int)<=(k:Int):=by omega
   have j6:(k:Int)<(m.tasks.length:Int):=by omega
   have j9:(0:Int)<=(n:Int):=by omega
   have k1:(n:Int)<(N:Int):=by omega
   have k2:IntKind.i64.wrap ((N:Int) - 1)=(n:Int):=by rw [Fb];omega
   have j7:IntKind.i64.wrap ((k:Int)+1)=(k:Int)+1:=by rw [Fb];omega
   have j2:=zh f2;have j1:=zh a2;clear f2 a2 a7
   go_wp2_with fail
   go_quiet ((go_at_call 42;refine (zB x _ (h7.out.below ((zb.refl wr).drewN _)) (by omega)).mono ?_;rintro e w9 ⟨rfl,rfl⟩;exact ⟨rfl,⟨_,rfl⟩⟩))
   have z:Hid (zk (wr.drewN nq) gs _ _):=U.out.ext ((zb.refl wr).drewN _);have G:Hid (zb w3 (wr.drewN nq)):=hE.out.drewN _;have g9:Hid (∀h:zb wr (wr.drewN nq),zb wr (wr.drewN nq)):=fun h=>h
   generalize wr.drewN nq=WX at z G g9⊢;obtain ⟨d,hd⟩:=zad (decide (x∈T));rw [<-hd] at b4⊢;clear hd;have c8:=z.out.cell (k:=8) rfl;have f8:=z.out.frozen 8
   cases d with
   | true=>
    clear q5 q8 qt qp qx hx
    go_wp2_with fail
    have b7:=z.out.set (k:=8) (.int .i64 ((k:Int)+1));have c9:zb w3 (WX.setCell ⟨gs,8,none⟩ (.int .i64 ((k:Int)+1))):=G.out.setCell (p:=⟨gs,8,none⟩) (by rw [h6.out];exact EG _) _;generalize WX.setCell ⟨gs,8,none⟩ (.int .i64 ((k:Int)+1))=w6 at b7 c9⊢;have h4:=zh c9;have e7:=zh b7;clear c9 b7;go_roundw
    case rel=>exact ⟨k+1,by omega,by
     show _=_;have:=a0.out;rw [show PL - k=(PL - (k+1))+1 from by omega,curF,if_pos ⟨by have:=O.out;omega,b4.out⟩] at this;exact this,h4.out,by have:=e7.out;exact this⟩
    case measure=>
     have h1:w6.cell? ⟨gs,8,none⟩=some (.int .i64 ((k:Int)+1)):=e7.out.cell (k:=8) rfl;have h2:wr.cell? ⟨gs,8,none⟩=some (.int .i64 k):=g8.out;simp only [h1,h2];omega
   | false=>
    have b3:Hid (zR m ch=k):=by
     show _=_;have:=a0.out;rw [show PL - k=(PL - (k+1))+1 from by omega,curF,if_neg (by rw [b4.out];simp)] at this;exact this.symm
    clear q5 q8 qt qp qx hx c8 f8;have o:zk WX (gm+1) 103 _:=HZ.out.ext (b5.out.trans G.out);have z0:=o.cell (k:=0) rfl;have z1:=o.cell (k:=1) rfl;have z2:=o.cell (k:=2) rfl;have z3:=o.cell (k:=3) rfl;have z4:=o.cell (k:=4) rfl;have z5:=o.cell (k:=5) rfl;have z6:=o.cell (k:=6) rfl;have z7:=o.cell (k:=7) rfl;have z8:=o.cell (k:=8) rfl;have c0:=z.out.cell (k:=0) rfl;have c1:=z.out.cell (k:=1) rfl;have c2:=z.out.cell (k:=2) rfl;have c3:=z.out.cell (k:=3) rfl;have c4:=z.out.cell (k:=4) rfl;have c5:=z.out.cell (k:=5) rfl;have c6:=z.out.cell (k:=6) rfl;have c7:=z.out.cell (k:=7) rfl;have c8:=z.out.cell (k:=8) rfl;have hfz:∀j,WX.frozen? ⟨gm+1,j,none⟩=false:=fun j=>o.frozen j
    have b1:=zh o;clear o
    go_wp2_with fail
    refine case_fin9 (P:=fun W=>bodyPost Tryz.prog Tryz.f66 _ Exit.ret _ W) (g2:=gm+1) ?_ b1.out;intro WZ D d4 e5;have y0:=D.cell (k:=0) rfl;have y1:=D.cell (k:=1) rfl;have y2:=D.cell (k:=2) rfl;have y3:=D.cell (k:=3) rfl;have y4:=D.cell (k:=4) rfl;have y5:=D.cell (k:=5) rfl;have y6:=D.cell (k:=6) rfl;have y7:=D.cell (k:=7) rfl;have y8:=D.cell (k:=8) rfl;refine FC (v:=Ey m (.slice Af m.free.length cf) (.slice Au m.up.length cu) (.slice (some ⟨bt,offt,none⟩) m.tasks.length ct) (.slice Ac ch.length cc) (.slice (some ⟨bp,offp,none⟩) PL cp) k) (by simp [results,Tryz.results66,go_sem,y0,y1,y2,y3,y4,y5,y6,y7,y8,Ey]) rfl ⟨_,by rw [b3.out],?_,?_⟩
    ·exact Below.trans (I.out.trans G.out) (d4.mono (by have:=Q.out;omega))
    ·have hS:zW (fun b=>(ok b\/w.heap.size<=b)/\b≠gm+1) WX WZ:=fun b E a3=>e5 b a3 E.2
     have V:∀{b},b<w.heap.size->b≠gm+1:=fun E=>by have:=Q.out;omega
     refine ⟨?_,?_,?_⟩
     ·exact ((((b6.out.bound).keep (zW.of_below (I.out.trans G.out))).weaken (fun b E=>⟨.inl E.1,V E.2⟩)).keep hS).weaken (fun _ E=>E.1)
     ·exact ((((b2.out.bound).keep (zW.of_below (I.out.trans G.out))).weaken (fun b E=>⟨.inl E.1,V E.2⟩)).keep hS).weaken (fun _ E=>E.1)
     ·exact ((O.out ▸ f0.out.below G.out:zv WX (fun b=>(ok b\/w.heap.size<=b)/\b≠gm+1) _ (zq m ch)).keep hS).weaken (fun _ E=>E.1)
  ·have j0:¬ ((k:Int)<(PL:Int)):=by omega
   have b3:Hid (zR m ch=k):=by
    show _=_;have:=a0.out;rw [show PL - k=0 from by omega,curF] at this;exact this.symm
   have q8:=zb.rule c8;have hx:zb wr wr:=zb.refl wr;clear c0 c1 c2 c3 c4 c5 c6 c7 r0 r1 r2 r3 r4 r5
   go_wp2_with fail
   go_quiet (fail)
   have z:Hid (zk (wr.drewN nq) gs _ _):=U.out.ext ((zb.refl wr).drewN _);have G:Hid (zb w3 (wr.drewN nq)):=hE.out.drewN _;clear q8 hx c8;generalize wr.drewN nq=WX at z G⊢;have o:zk WX (gm+1) 103 _:=HZ.out.ext (b5.out.trans G.out);have z0:=o.cell (k:=0) rfl;have z1:=o.cell (k:=1) rfl;have z2:=o.cell (k:=2) rfl;have z3:=o.cell (k:=3) rfl;have z4:=o.cell (k:=4) rfl;have z5:=o.cell (k:=5) rfl;have z6:=o.cell (k:=6) rfl;have z7:=o.cell (k:=7) rfl;have z8:=o.cell (k:=8) rfl;have c0:=z.out.cell (k:=0) rfl;have c1:=z.out.cell (k:=1) rfl;have c2:=z.out.cell (k:=2) rfl;have c3:=z.out.cell (k:=3) rfl;have c4:=z.out.cell (k:=4) rfl;have c5:=z.out.cell (k:=5) rfl;have c6:=z.out.cell (k:=6) rfl;have c7:=z.out.cell (k:=7) rfl;have c8:=z.out.cell (k:=8) rfl;have hfz:∀j,WX.frozen? ⟨gm+1,j,none⟩=false:=fun j=>o.frozen j
   have b1:=zh o;clear o
   go_wp2_with fail
   refine case_fin9 (P:=fun W=>bodyPost Tryz.prog Tryz.f66 _ Exit.ret _ W) (g2:=gm+1) ?_ b1.out;intro WZ D d4 e5;have y0:=D.cell (k:=0) rfl;have y1:=D.cell (k:=1) rfl;have y2:=D.cell (k:=2) rfl;have y3:=D.cell (k:=3) rfl;have y4:=D.cell (k:=4) rfl;have y5:=D.cell (k:=5) rfl;have y6:=D.cell (k:=6) rfl;have y7:=D.cell (k:=7) rfl;have y8:=D.cell (k:=8) rfl;refine FC (v:=Ey m (.slice Af m.free.length cf) (.slice Au m.up.length cu) (.slice At m.tasks.length ct) (.slice Ac ch.length cc) (.slice Ap PL cp) k) (by simp [results,Tryz.results66,go_sem,y0,y1,y2,y3,y4,y5,y6,y7,y8,Ey]) rfl ⟨_,by rw [b3.out],?_,?_⟩
   ·exact Below.trans (I.out.trans G.out) (d4.mono (by have:=Q.out;omega))
   ·have hS:zW (fun b=>(ok b\/w.heap.size<=b)/\b≠gm+1) WX WZ:=fun b E a3=>e5 b a3 E.2
    have V:∀{b},b<w.heap.size->b≠gm+1:=fun E=>by have:=Q.out;omega
    refine ⟨?_,?_,?_⟩
    ·exact ((((b6.out.bound).keep (zW.of_below (I.out.trans G.out))).weaken (fun b E=>⟨.inl E.1,V E.2⟩)).keep hS).weaken (fun _ E=>E.1)
    ·exact ((((b2.out.bound).keep (zW.of_below (I.out.trans G.out))).weaken (fun b E=>⟨.inl E.1,V E.2⟩)).keep hS).weaken (fun _ E=>E.1)
    ·exact ((O.out ▸ f0.out.below G.out:zv WX (fun b=>(ok b\/w.heap.size<=b)/\b≠gm+1) _ (zq m ch)).keep hS).weaken (fun _ E=>E.1)
end
end Go.Proofs.YthbjngbhbbkkgaaGreat
