import Derived.Test.YtnmkmhpgnpojbaaGreatDoorWXk
import Derived.Test.YtnmkmhpgnpojbaaGreatDoorWXo
set_option linter.unusedVariables false
set_option linter.unusedSimpArgs false
set_option maxRecDepth 100000
set_option maxHeartbeats 16000000
namespace Go.Proofs.YtnmkmhpgnpojbaaGreatDoor
variable {a:Act} {K:Act->World->Prop} {ops:Array Oper} {Q:Exit->Act->World->Prop} {l:List (List Int×List Int)} {ns:List ByteArray} {xs:List Value} {m:MZ} {B bytes cap g n sz:Nat} {ok:Nat->Prop} {o:Oper} {r:Option Nat} {z:Value} {w:World}
section
open Go.RowKit
structure JA (V:Nat->Value->World->Prop) (D:Nat->List Nat) (w9:World) (A:List Nat) (ja jf js:Nat) (gp:Value) (PA:Value->World->Prop) (PS:World->Prop) (e:Nat->Bool) (v:Nat->Value) (W:World):Prop where
 g:e ja=false->zb w9 W
 gv:e ja=false->∀j∈A,e j=true->V j (v j) W
 d:e ja=true->∀j∈A,e j=true
 m:e ja=true->e js=false->PA (v ja) W
 s:e js=true->e ja=true/\PS W
 f:e jf=true->v jf=gp
 c:∀j∈A,e j=true->∀d∈D j,d∈A/\e d=true
section
variable {V:Nat->Value->World->Prop} {D:Nat->List Nat} {w9 W W':World} {A:List Nat} {ja jf js:Nat} {gp:Value} {PA:Value->World->Prop} {PS:World->Prop} {e:Nat->Bool} {v:Nat->Value} {j:Nat} {x:Value}
theorem upd_true {e:Nat->Bool} {j d:Nat} (h:e d=true):zT e j true d=true:=by
 by_cases E:d=j
 ·subst E;exact AH e d true
 ·rw [zW e true E];exact h
theorem JA.notA (h:JA V D w9 A ja jf js gp PA PS e v W) (G:j∈A) (he:e j=false):e ja=false:=by
 cases E:e ja with
 | false=>rfl
 | true=>have:=h.d E j G;rw [he] at this;cases this
theorem JA.init (M:zb w9 W) (hA:ja∉A) (he:∀j,j∈ja :: jf :: js :: A->e j=false):JA V D w9 A ja jf js gp PA PS e v W:=by
 have G:=he ja (by simp);have I:=he jf (by simp);have J:=he js (by simp);refine ⟨fun _=>M,fun _ j E d=>?_,fun h=>?_,fun h _=>?_,fun h=>?_,fun h=>?_,fun j E d=>?_⟩
 ·rw [he j (by simp [E])] at d;cases d
 ·rw [G] at h;cases h
 ·rw [G] at h;cases h
 ·rw [J] at h;cases h
 ·rw [I] at h;cases h
 ·rw [he j (by simp [E])] at d;cases d
theorem JA.step (h:JA V D w9 A ja jf js gp PA PS e v W) (hj:j∈A) (he:e j=false) (hV:StV V) (M:j≠ja/\j≠jf/\j≠js) (hD:∀d∈D j,d∈A/\e d=true) (hE:zb W W') (hx:V j x W'):JA V D w9 A ja jf js gp PA PS (zT e j true) (zT v j x) W':=by
 have J:=h.notA hj he
 have U:e js=false:=by
  cases U:e js with
  | false=>rfl
  | true=>have:=(h.s U).1;rw [J] at this;cases this
 have I:zT e j true ja=false:=by rw [zW e true (fun e=>M.1 e.symm)];exact J
 have a0:zT e j true js=false:=by rw [zW e true (fun e=>M.2.2 e.symm)];exact U
 refine ⟨fun _=>(h.g J).trans hE,fun _ k O G=>?_,fun h=>(by rw [I] at h;cases h),fun h=>(by rw [I] at h;cases h),fun h=>(by rw [a0] at h;cases h),fun hf=>?_,fun k O G d hd=>?_⟩
 ·by_cases E:k=j
  ·subst E;rw [AH];exact hx
  ·rw [zW v x E];rw [zW e true E] at G;exact hV.ext hE (h.gv J k O G)
 ·rw [zW v x (fun e=>M.2.1 e.symm)];rw [zW e true (fun e=>M.2.1 e.symm)] at hf;exact h.f hf
 ·have h1:d∈A/\e d=true:=by
   by_cases E:k=j
   ·subst E;exact hD d hd
   ·rw [zW e true E] at G;exact h.c k O G d hd
  exact ⟨h1.1,upd_true h1.2⟩
theorem JA.app (h:JA V D w9 A ja jf js gp PA PS e v W) (he:e ja=false) (hA:ja∉A) (J:ja≠jf/\ja≠js) (hd:∀j∈A,e j=true) (hx:PA x W'):JA V D w9 A ja jf js gp PA PS (zT e ja true) (zT v ja x) W':=by
 have O:zT e ja true js=e js:=zW e true (fun e=>J.2 e.symm)
 have M:e js=false:=by
  cases M:e js with
  | false=>rfl
  | true=>have:=(h.s M).1;rw [he] at this;cases this
 refine ⟨fun a=>?_,fun a=>?_,fun _ k E=>?_,fun _ _=>by rw [AH];exact hx,fun a=>?_,fun a=>?_,fun k E G d I=>by
  rw [zW (j:=ja) (k:=k) e true (fun q=>hA (q ▸ E))] at G;obtain ⟨U,h2⟩:=h.c k E G d I;exact ⟨U,upd_true h2⟩⟩
 ·rw [AH] at a;cases a
 ·rw [AH] at a;cases a
 ·rw [zW (j:=ja) (k:=k) e true (fun q=>hA (q ▸ E))];exact hd k E
 ·rw [O,M] at a;cases a
 ·rw [zW v x (fun e=>J.1 e.symm)];exact h.f (by rwa [zW e true (fun e=>J.1 e.symm)] at a)
theorem JA.store (h:JA V D w9 A ja jf js gp PA PS e v W) (hA:js∉A) (M:js≠ja/\js≠jf) (J:e ja=true) (hx:PS W'):JA V D w9 A ja jf js gp PA PS (zT e js true) (zT v js x) W':=by
 have E:zT e js true ja=e ja:=zW e true (fun e=>M.1 e.symm)
 refine ⟨fun a=>?_,fun a=>?_,fun _ k G=>?_,fun _ b=>?_,fun _=>⟨by rw [E];exact J,hx⟩,fun a=>?_,fun k G I d hd=>by
  rw [zW (j:=js) (k:=k) e true (fun q=>hA (q ▸ G))] at I;obtain ⟨O,U⟩:=h.c k G I d hd;exact ⟨O,upd_true U⟩⟩
 ·rw [E,J] at a;cases a
 ·rw [E,J] at a;cases a
 ·rw [zW (j:=js) (k:=k) e true (fun q=>hA (q ▸ G))];exact h.d J k G
 ·rw [AH] at b;cases b
 ·rw [zW v x (fun e=>M.2 e.symm)];exact h.f (by rwa [zW e true (fun e=>M.2 e.symm)] at a)
end
structure ElemI (t e:TypeId) (z:Value) (sz bytes:Nat):Prop where
 ht:Tryz.prog.underlying t=some (.slice e)
 hi:(Tryz.prog.info? e).map (fun i=>(i.zero,i.size,i.bytes))=some (some z,sz,bytes)
 hz:z.cells.size=sz
 h0:0<sz
theorem run_append_rowS (w:World) (base:Nat) (t ty e:TypeId) (z:Value) (sz bytes:Nat) (I:ElemI t e z sz bytes)
  (v:Value) (n:Nat) (xs:List Value) (J:w.ownsRow base e sz v n xs) (u:Value) (m:Nat) (news:List Value) (hu:Aw w ok sz u m news) (U:∀u∈news,u.oneCell'=true)
  (a0:n+m<=maxLen) (E:(n+m)*bytes<=140737488355328) (M:base<=w.heap.size):
  ∃v' w',(Builtin.append_ #[t,t] ty #[v,u]).run Tryz.prog w=.ok v' w'/\w'.ownsRow base e sz v' (n+m) (xs++news)/\w.grownBy w' v.ownBlock/\(v'.ownBlock=v.ownBlock\/v'.ownBlock=some w.heap.size):=by
 obtain ⟨i,hi,hz,d,a1⟩:=info_parts I.hi;have ht:=I.ht;have a2:=I.hz;have O:=I.h0;obtain ⟨A,c,rfl,hc,hl,G⟩:=hu;rcases A with _ | a
 ·have hm:m=0:=by
   rcases Ec m with h | h
   ·exact h
   ·obtain ⟨b,off,e,_⟩:=G h;cases e
  subst hm;have hn:news=[]:=DJ (by simpa using hl);subst hn;refine ⟨v,w,?_,by simpa using J,⟨rfl,rfl,rfl,Dq _,fun _ _ _=>rfl⟩,.inl rfl⟩;rcases J.2 with ⟨rfl,rfl⟩ | ⟨g,cap,cur,rfl,b3,hg,b7,b4,b5,b0⟩
  ·simp [Builtin.append_,run_underlying ht,sizeOf,typeInfo,hi,d,Builtin.lenOf,Builtin.firstCells,loadCells,loadCellsFrom]
  ·have h:=run_append_room_src (P:=Tryz.prog) w t t ty e i ht hi g 0 n cap (.slice none 0 c) 0 [] (by rw [d];exact Src.ofNil w ht c) (by omega) (by simp) (by simp);rw [setCells_nil] at h;simpa using h
 ·rcases Ec m with h0 | hmp
  ·subst h0;have hn:news=[]:=DJ (by simpa using hl);subst hn;obtain ⟨v',w',U,h2,h3,h4,h5⟩:=run_append_own_at (P:=Tryz.prog) w base t ty e i z sz bytes ht hi hz d a1 a2 O v n xs J a 0 c [] (by simp) (by simp) (by simp) a0 E M;exact ⟨v',w',U,h2,h3,h5⟩
  ·obtain ⟨b,off,he,_,a7⟩:=G hmp;injection he with he;subst he;obtain ⟨v',w',U,h2,h3,h4,h5⟩:=run_append_own_at (P:=Tryz.prog) w base t ty e i z sz bytes ht hi hz d a1 a2 O v n xs J ⟨b,off,none⟩ m c news hl (fun j u hj=>by rw [Addr.add_lit];exact a7 j u hj) U a0 E M;exact ⟨v',w',U,h2,h3,h5⟩
theorem wp_append_row (W:World) (s x:Operand) {t e:TypeId} (I:ElemI t e z sz bytes)
  (ho:o.op=.call { callee:=.builtin .append,args:=#[s,x],argTypes:=#[t,t] }) (base n m:Nat) (l l2:List Value) (v u:Value) (hs:a.eval s=v) (hx:a.eval x=u)
  (E:W.ownsRow base e sz v n l) (hu:Aw W ok sz u m l2) (J:∀u∈l2,u.oneCell'=true) (d:base<=W.heap.size) (G:n+m<=maxLen) (hl:(n+m)*bytes<=140737488355328)
  (h:∀v' w',w'.ownsRow base e sz v' (n+m) (l++l2)->W.grownBy w' v.ownBlock->(v'.ownBlock=v.ownBlock\/v'.ownBlock=some W.heap.size)->K (a.put o.dst v') w'):Oper.wp Tryz.prog o a W K Q:=by
 obtain ⟨v',w',hr,M,O,U⟩:=run_append_rowS (ok:=ok) W base t o.type e z sz bytes I v n l E u m l2 hu J G hl d;unfold Oper.wp execOp;simp only [ho,resolve,invoke,builtin,Sem.run_bind,Sem.run_pure,Result.andThen_ok,List.map_toArray,List.map_cons,List.map_nil,hs,hx,hr];exact h v' w' M O U
theorem wpList_append_row {rest:List Oper} (M:o.guard=none) (W:World) (s x:Operand) {t e:TypeId} (I:ElemI t e z sz bytes)
  (ho:o.op=.call { callee:=.builtin .append,args:=#[s,x],argTypes:=#[t,t] }) (base n m:Nat) (l l2:List Value) (v u:Value) (hs:a.eval s=v) (hx:a.eval x=u)
  (E:W.ownsRow base e sz v n l) (hu:Aw W ok sz u m l2) (G:∀u∈l2,u.oneCell'=true) (d:base<=W.heap.size) (J:n+m<=maxLen) (hl:(n+m)*bytes<=140737488355328)
  (h:∀v' w',w'.ownsRow base e sz v' (n+m) (l++l2)->W.grownBy w' v.ownBlock->(v'.ownBlock=v.ownBlock\/v'.ownBlock=some W.heap.size)->wpList Tryz.prog ops Q rest (a.put o.dst v') w'):wpList Tryz.prog ops Q (o :: rest) a W:=by
 refine wpList_plain M fun K hK=>?_
 exact wp_append_row W s x I ho base n m l l2 v u hs hx E hu G d J hl fun v' w' G O U=>hK _ _ (h v' w' G O U)
theorem Ag {E:Prop} (M:o.guard=none) (W:World) (s x:Operand) {t e:TypeId} (I:ElemI t e z sz bytes)
  (ho:o.op=.call { callee:=.builtin .append,args:=#[s,x],argTypes:=#[t,t] }) (base n m:Nat) (l l2:List Value) (v u:Value) (hs:a.eval s=v) (hx:a.eval x=u)
  (G:W.ownsRow base e sz v n l) (hu:Aw W ok sz u m l2) (O:∀u∈l2,u.oneCell'=true) (d:base<=W.heap.size) (J:n+m<=maxLen) (U:(n+m)*bytes<=140737488355328)
  (h:∀v' w',w'.ownsRow base e sz v' (n+m) (l++l2)->W.grownBy w' v.ownBlock->(v'.ownBlock=v.ownBlock\/v'.ownBlock=some W.heap.size)->K (a.put o.dst v') w'):
  if Region.wanted o (yielded ops a.tmps)=true then Oper.wp Tryz.prog o a W K Q else E:=by
 have hw:Region.wanted o (yielded ops a.tmps)=true:=by simp [Region.wanted,M]
 rw [if_pos hw];exact wp_append_row W s x I ho base n m l l2 v u hs hx G hu O d J U h
theorem eBools:ElemI 28 29 (.slice none 0 0) 1 24:=⟨Tryz.underlying28,Tryz.infoBools,rfl,by decide⟩
end
section
open Go.RowKit
attribute [local go_sem ↓] Go.wp_at_zero Go.wp_at_succ
def TasksN (w:World) (ok:Nat->Prop) (v:Value) (l:List (List Int×List Int)) (ns:List ByteArray):Prop:=
 ns.length=l.length/\∃vs,Aw w ok 3 v l.length vs/\∀(i:Nat) x s,l[i]?=some x->ns[i]?=some s->∃u1 u2,vs[i*3]?=some (.string s)/\vs[i*3+1]?=some u1/\vs[i*3+2]?=some u2/\zk w ok u1 x.1/\zk w ok u2 x.2
def MazeN (w:World) (ok:Nat->Prop) (v:Value) (m:MZ) (ns:List ByteArray):Prop:=
 ∃f u t,v=.agg #[.int .i64 m.w,.int .i64 m.h,.int .i64 m.l,f,u,t]/\AO w ok f m.free/\AR w ok u m.up/\TasksN w ok t m.tasks ns
theorem TasksN.tasks {v:Value} (h:TasksN w ok v l ns):Bf w ok v l:=by
 obtain ⟨M,vs,I,he⟩:=h;refine ⟨vs,I,fun i x d=>?_⟩;obtain ⟨J,-⟩:=Em.1 d;obtain ⟨u1,u2,h0,E,G,i1,i2⟩:=he i x _ d (Do (by omega));exact ⟨_,u1,u2,h0,E,G,i1,i2⟩
theorem MazeN.maze {v:Value} (h:MazeN w ok v m ns):zF w ok v m:=by
 obtain ⟨f,u,t,rfl,d,E,G⟩:=h;exact ⟨f,u,t,rfl,d,E,G.tasks⟩
theorem Bf.nets {v:Value} (h:Bf w ok v l):∃ns,TasksN w ok v l ns:=by
 obtain ⟨vs,M,he⟩:=h;refine ⟨(List.range l.length).map fun i=>match vs[i*3]? with | some (Value.string s)=>s | _=>(⟨#[]⟩:ByteArray),by simp,vs,M,fun i x s E d=>?_⟩;obtain ⟨s',u1,u2,h0,G,I,i1,i2⟩:=he i x E;rw [Ea] at d;obtain ⟨J,-⟩:=Em.1 E;rw [List.getElem?_range J] at d;simp only [Option.map_some,h0] at d;injection d with d;subst d;exact ⟨u1,u2,h0,G,I,i1,i2⟩
theorem zF.nets {w:World} {ok:Nat->Prop} {v:Value} {m:MZ} (h:zF w ok v m):∃ns,MazeN w ok v m ns:=by
 obtain ⟨f,u,t,rfl,d,E,G⟩:=h;obtain ⟨ns,I⟩:=G.nets;exact ⟨ns,f,u,t,rfl,d,E,I⟩
theorem TasksN.below {w w':World} {ok:Nat->Prop} {v:Value} {l:List (List Int×List Int)} {ns:List ByteArray} (h:TasksN w ok v l ns) (d:Below w.heap.size w w'):TasksN w' ok v l ns:=by
 obtain ⟨I,vs,J,he⟩:=h;refine ⟨I,vs,J.below d,fun i x s O M=>?_⟩;obtain ⟨u1,u2,h0,E,G,i1,i2⟩:=he i x s O M;exact ⟨u1,u2,h0,E,G,i1.below d,i2.below d⟩
theorem MazeN.keepW {w':World} {ok':Nat->Prop} {v:Value} (h:MazeN w ok v m ns) (d:zN ok w w') (E:∀b,ok b->ok' b):MazeN w' ok' v m ns:=by
 obtain ⟨f,u,t,rfl,G,I,J,vs,M,he⟩:=h;refine ⟨f,u,t,rfl,(G.keep d).weaken E,(I.keep d).weaken E,J,vs,(M.keep d).weaken E,fun i x s U O=>?_⟩;obtain ⟨u1,u2,q0,q1,q2,i1,i2⟩:=he i x s U O;exact ⟨u1,u2,q0,q1,q2,(i1.keep d).weaken E,(i2.keep d).weaken E⟩
theorem MazeN.below {w':World} {v:Value} (h:MazeN w ok v m ns) (d:Below w.heap.size w w'):MazeN w' ok v m ns:=h.keepW (zN.of_below d) (fun _ h=>h)
theorem Br {wr w':World} {e:TypeId} {v:Value} (h:wr.ownsRow B e sz v n xs) (J:wr.grownBy w' r) (M:∀b,r=some b->∃t cs,ze wr b t cs/\t≠e):w'.ownsRow B e sz v n xs:=by
 refine h.kept J ?_;rcases h.2 with ⟨rfl,-⟩ | ⟨g,cap,cur,rfl,-,hh,-⟩
 ·exact .inl rfl
 ·right
  intro I;obtain ⟨t,cs,G,E⟩:=M g I.symm;have d:wr.heap[g]?=_:=G;rw [hh] at d;injection d with d;injection d with _ e2 _;exact E e2.symm
theorem own_blk {wr:World} {e:TypeId} {v:Value} (h:wr.ownsRow B e sz v n xs) {b:Nat} (d:v.ownBlock=some b):∃cs,ze wr b e cs/\B<=b:=by
 rcases h.2 with ⟨rfl,-⟩ | ⟨g,cap,cur,rfl,E,hh,-⟩
 ·cases d
 ·have:g=b:=by simpa [Value.ownBlock] using d
  subst this;exact ⟨cur,hh,E⟩
theorem grown_ext {w':World} (h:zb w w'):w.grownBy w' none:=⟨h.os,h.tape,h.output,h.size,fun i d _=>h.block i d⟩
def OwnBs (w:World) (B:Nat) (v:Value) (l:List Bool):Prop:=w.ownsRow B 4 1 v l.length (l.map Value.bool)
structure SubI (w0 wr:World) (g7:Nat) (W H L:Int) (up:List Bool) (bF vU bT vF vT:Value) (fs:List (List Bool)) (ts:List (List Int×List Int)) (nn:List ByteArray):Prop where
 ext:zb w0 wr
 lo:w0.heap.size<=g7
 box:ze wr g7 32 #[.int .i64 W,.int .i64 H,.int .i64 L,bF,vU,bT]
 up:OwnBs wr w0.heap.size vU up
 fr:∃vs,wr.ownsRow w0.heap.size 29 1 vF fs.length vs/\∀(i:Nat) x,fs[i]?=some x->∃u,vs[i]?=some u/\OwnBs wr w0.heap.size u x
 tk:∃vs,wr.ownsRow w0.heap.size 113 3 vT ts.length vs/\nn.length=ts.length/\∀(i:Nat) x s,ts[i]?=some x->nn[i]?=some s->∃u1 u2,vs[i*3]?=some (.string s)/\vs[i*3+1]?=some u1/\vs[i*3+2]?=some u2/\zt wr w0.heap.size u1 x.1/\zt wr w0.heap.size u2 x.2
section
variable {w0 wr w':World} {g7:Nat} {W H L:Int} {up:List Bool} {bF vU bT vF vT vT' vF':Value} {fs:List (List Bool)} {ts:List (List Int×List Int)} {nn:List ByteArray}
theorem SubI.each (h:SubI w0 wr g7 W H L up bF vU bT vF vT fs ts nn) (M:wr.grownBy w' r) (O:∀b,r=some b->∃t cs,ze wr b t cs/\t≠3/\t≠4):
  OwnBs w' w0.heap.size vU up/\(∀{u:Value} {x:List Bool},OwnBs wr w0.heap.size u x->OwnBs w' w0.heap.size u x)/\∀{u:Value} {x:List Int},zt wr w0.heap.size u x->zt w' w0.heap.size u x:=by
 have d:∀{u:Value} {x:List Bool},OwnBs wr w0.heap.size u x->OwnBs w' w0.heap.size u x:=fun G=>Br G M fun b E=>by obtain ⟨t,cs,d,I,J⟩:=O b E;exact ⟨t,cs,d,J⟩
 exact ⟨d h.up,d,fun G=>Br G M fun b E=>by obtain ⟨t,cs,d,I,J⟩:=O b E;exact ⟨t,cs,d,I⟩⟩
theorem SubI.more (h:SubI w0 wr g7 W H L up bF vU bT vF vT fs ts nn) (E:zb wr w'):SubI w0 w' g7 W H L up bF vU bT vF vT fs ts nn:=by
 have G:=grown_ext E;obtain ⟨M,O,J⟩:=h.each G (fun b d=>by cases d);obtain ⟨vs,ho,he⟩:=h.fr;obtain ⟨us,hp,hn,hf⟩:=h.tk;refine ⟨h.ext.trans E,h.lo,h.box.ext E,M,⟨vs,Br ho G (fun b d=>by cases d),fun i x I=>?_⟩,⟨us,Br hp G (fun b d=>by cases d),hn,fun i x s I hs=>?_⟩⟩
 ·obtain ⟨u,hu,U⟩:=he i x I;exact ⟨u,hu,O U⟩
 ·obtain ⟨u1,u2,q0,q1,q2,i1,i2⟩:=hf i x s I hs;exact ⟨u1,u2,q0,q1,q2,J i1,J i2⟩
theorem SubI.addT (h:SubI w0 wr g7 W H L up bF vU bT vF vT fs ts nn) {us:List Value} {x:List Int×List Int} {s:ByteArray} {u1 u2:Value} (hf:∀(i:Nat) x s,ts[i]?=some x->nn[i]?=some s->∃u1 u2,us[i*3]?=some (.string s)/\us[i*3+1]?=some u1/\us[i*3+2]?=some u2/\zt wr w0.heap.size u1 x.1/\zt wr w0.heap.size u2 x.2)
  (hn:nn.length=ts.length) (a8:us.length=ts.length*3) (hv:wr.ownsRow w0.heap.size 113 3 vT ts.length us) (h1:zt wr w0.heap.size u1 x.1) (h2:zt wr w0.heap.size u2 x.2) (ho:w'.ownsRow w0.heap.size 113 3 vT' (ts.length+1) (us++[.string s,u1,u2])) (I:wr.grownBy w' vT.ownBlock):
  SubI w0 w' g7 W H L up bF vU bT vF vT' fs (ts++[x]) (nn++[s]):=by
 have hr:∀b,vT.ownBlock=some b->∃t cs,ze wr b t cs/\t=113:=fun b G=>by obtain ⟨cs,d,-⟩:=own_blk hv G;exact ⟨_,cs,d,rfl⟩
 obtain ⟨k1,k2,k3⟩:=h.each I (fun b G=>by obtain ⟨t,cs,d,rfl⟩:=hr b G;exact ⟨_,cs,d,by decide,by decide⟩);obtain ⟨vs,U,he⟩:=h.fr;refine ⟨h.ext.grown I h.ext.size (fun k hk=>by obtain ⟨cs,-,d⟩:=own_blk hv hk;exact d),h.lo,?_,k1,⟨vs,Br U I (fun b G=>by obtain ⟨t,cs,d,rfl⟩:=hr b G;exact ⟨_,cs,d,by decide⟩),fun i y E=>?_⟩,⟨us++[.string s,u1,u2],by rw [Dz];exact ho,by simp [hn],fun i y s' E J=>?_⟩⟩
 ·refine (I.block g7 (za h.box) (fun e=>?_)).trans h.box;obtain ⟨t,cs,d,rfl⟩:=hr g7 e.symm;exact ze.ne_ d h.box (by decide) rfl
 ·obtain ⟨u,hu,M⟩:=he i y E;exact ⟨u,hu,k2 M⟩
 ·by_cases M:i<ts.length
  ·rw [Dw M] at E;rw [Dw (by omega)] at J;obtain ⟨u1',u2',q0,q1,q2,i1,i2⟩:=hf i y s' E J;exact ⟨u1',u2',by rw [Dw (by omega)];exact q0,by rw [Dw (by omega)];exact q1,by rw [Dw (by omega)];exact q2,k3 i1,k3 i2⟩
  ·have O:i=ts.length:=by
    obtain ⟨h,-⟩:=Em.1 E;rw [Dz,DR] at h;omega
   subst O;rw [Dx (Dq _),Nat.sub_self] at E;rw [Dx (by omega),hn,Nat.sub_self] at J;have e1:x=y:=by simpa using E
   have e2:s=s':=by simpa using J
   subst e1 e2;refine ⟨u1,u2,?_,?_,?_,k3 h1,k3 h2⟩
   ·rw [Dx (by omega),show ts.length*3 - us.length=0 by omega];rfl
   ·rw [Dx (by omega),show ts.length*3+1 - us.length=1 by omega];rfl
   ·rw [Dx (by omega),show ts.length*3+2 - us.length=2 by omega];rfl
theorem SubI.addF (h:SubI w0 wr g7 W H L up bF vU bT vF vT fs ts nn) {vs:List Value} {x:List Bool} {u:Value} (he:∀(i:Nat) x,fs[i]?=some x->∃u,vs[i]?=some u/\OwnBs wr w0.heap.size u x)
  (a0:vs.length=fs.length) (hv:wr.ownsRow w0.heap.size 29 1 vF fs.length vs) (h1:OwnBs wr w0.heap.size u x) (ho:w'.ownsRow w0.heap.size 29 1 vF' (fs.length+1) (vs++[u])) (I:wr.grownBy w' vF.ownBlock):
  SubI w0 w' g7 W H L up bF vU bT vF' vT (fs++[x]) ts nn:=by
 have U:∀b,vF.ownBlock=some b->∃t cs,ze wr b t cs/\t=29:=fun b G=>by obtain ⟨cs,d,-⟩:=own_blk hv G;exact ⟨_,cs,d,rfl⟩
 obtain ⟨k1,k2,k3⟩:=h.each I (fun b G=>by obtain ⟨t,cs,d,rfl⟩:=U b G;exact ⟨_,cs,d,by decide,by decide⟩);obtain ⟨us,O,hn,hf⟩:=h.tk;refine ⟨h.ext.grown I h.ext.size (fun k hk=>by obtain ⟨cs,-,d⟩:=own_blk hv hk;exact d),h.lo,?_,k1,⟨vs++[u],by rw [Dz];exact ho,fun i y E=>?_⟩,⟨us,Br O I (fun b G=>by obtain ⟨t,cs,d,rfl⟩:=U b G;exact ⟨_,cs,d,by decide⟩),hn,fun i y s E hs=>?_⟩⟩
 ·refine (I.block g7 (za h.box) (fun e=>?_)).trans h.box;obtain ⟨t,cs,d,rfl⟩:=U g7 e.symm;exact ze.ne_ d h.box (by decide) rfl
 ·by_cases hi:i<fs.length
  ·rw [Dw hi] at E;obtain ⟨u',hu,J⟩:=he i y E;exact ⟨u',by rw [Dw (by omega)];exact hu,k2 J⟩
  ·have M:i=fs.length:=by
    obtain ⟨h,-⟩:=Em.1 E;rw [Dz,DR] at h;omega
   subst M;rw [Dx (Dq _),Nat.sub_self] at E;have e1:x=y:=by simpa using E
   subst e1;exact ⟨u,by rw [Dx (by omega),a0,Nat.sub_self];rfl,k2 h1⟩
 ·obtain ⟨u1,u2,q0,q1,q2,i1,i2⟩:=hf i y s E hs;exact ⟨u1,u2,q0,q1,q2,k3 i1,k3 i2⟩
theorem SubI.maze (h:SubI w0 wr g7 W H L up vF vU vT vF vT fs ts nn):MazeN wr (fun b=>w0.heap.size<=b) (.agg #[.int .i64 W,.int .i64 H,.int .i64 L,vF,vU,vT]) ⟨W,H,L,fs,up,ts⟩ nn:=by
 obtain ⟨vs,I,he⟩:=h.fr;obtain ⟨us,hp,G,hf⟩:=h.tk;refine ⟨_,_,_,rfl,⟨vs,Aw.of_own I,fun i x d=>?_⟩,Aw.of_own h.up,G,us,Aw.of_own hp,fun i x s d J=>?_⟩
 ·obtain ⟨u,M,E⟩:=he i x d;exact ⟨u,M,Aw.of_own E⟩
 ·obtain ⟨u1,u2,q0,q1,q2,i1,i2⟩:=hf i x s d J;exact ⟨u1,u2,q0,q1,q2,Aw.of_own i1,Aw.of_own i2⟩
end
theorem SubI.start {w0 wr:World} {g7:Nat} {W H L:Int} {up:List Bool} {vU:Value} (G:zb w0 wr) (d:w0.heap.size<=g7) (I:ze wr g7 32 #[.int .i64 W,.int .i64 H,.int .i64 L,.slice none 0 0,vU,.slice none 0 0]) (J:OwnBs wr w0.heap.size vU up):
  SubI w0 wr g7 W H L up (.slice none 0 0) vU (.slice none 0 0) (.slice none 0 0) (.slice none 0 0) [] [] []:=
 ⟨G,d,I,J,⟨[],World.ownsRow_nil _ _ _ _,fun i x E=>by simp at E⟩,⟨[],World.ownsRow_nil _ _ _ _,rfl,fun i x s E=>by simp at E⟩⟩
end
section
open Go.RowKit Go.Shelf Go.Sort
attribute [local go_sem ↓] Go.wp_at_zero Go.wp_at_succ
def dfLA_ren:Go.Shelf.Ren:=⟨fun | 10=>197 | 6=>229 | n=>n,fun | 22=>22 | 23=>23 | 25=>190 | 3=>3 | 4=>4 | 0=>0 | n=>n,fun | n=>n⟩
theorem dfLA:Go.Proofs.SlLaysH.n10 Tryz.prog dfLA_ren:={
 mixed:=by kernel_rfl
 f6:=⟨Tryz.f229.name,by decide,Tryz.func229.trans (congrArg some (by kernel_rfl))⟩
 f10:=⟨Tryz.f197.name,by decide,Tryz.func197.trans (congrArg some (by kernel_rfl))⟩
 t0:=Tryz.underlying0
 a0:=Tryz.isAgg0
 z0:=Tryz.sizeOf0
 v0:=Tryz.zeroValue0
 t3:=Tryz.underlying3
 a3:=Tryz.isAgg3
 z3:=Tryz.sizeOf3
 v3:=Tryz.zeroValue3
 t4:=Tryz.underlying4
 a4:=Tryz.isAgg4
 z4:=Tryz.sizeOf4
 v4:=Tryz.zeroValue4
 t22:=Tryz.underlying22
 a22:=Tryz.isAgg22
 z22:=Tryz.sizeOf22
 v22:=Tryz.zeroValue22
 a23:=Tryz.isAgg23
 z23:=Tryz.sizeOf23
 t25:=Tryz.underlying190
 a25:=Tryz.isAgg190
 z25:=Tryz.sizeOf190
 v25:=Tryz.zeroValue190 }
abbrev SlV:={ v:Value // ∃A n c,v=.slice A n c }
def slLen (v:Value):Nat:=match v with | .slice _ n _=>n | _=>0
theorem holds_sl {l:List SlV} [Inhabited SlV] (h:Bz w B (.slice (some ⟨g,0,none⟩) (l.map (·.1)).length cap) (l.map (·.1))):Holds (fun x:SlV=>x.1) w g 0 l.toArray:=by
 intro j E;have d:j<l.length:=by simpa using E
 refine ⟨?_,by have:=World.ownsRow.frozenAt h j;simpa using this⟩;have:=World.ownsRow.cellAt h j (by simpa using d);rw [Nat.zero_add,this];simp [getElem!_pos,d]
theorem cf75 (a:Array Value) (w:World):(callFunc 199 a).run Tryz.prog w=.ok (.enter 199 a) w:=zX Tryz.func199 (by kernel_rfl) (by kernel_rfl) a w
theorem paths1_sl (x:SlV) (w:World):Calls Tryz.prog 199 (#[x.1]++#[]) w fun e w'=>e=.returned (.bool (decide (slLen x.1=0)))/\w=w':=by
 obtain ⟨_,A,n,c,rfl⟩:=x;show Calls Tryz.prog 199 #[.slice A n c] w _;by_cases d:n=0
 ·subst d
  go_enter Tryz.func199,Tryz.ntmps199
  go_wp2;go_ret;exact ⟨rfl,rfl⟩
 ·have E:((n:Int)==0)=false:=by rw [DE];omega
  have H:Hid (decide (slLen (.slice A n c)=0)=false):=Dv d;clear d
  go_enter Tryz.func199,Tryz.ntmps199
  go_wp2;go_ret;exact ⟨zl H.out.symm,rfl⟩
theorem deleteFuncL_calls {l:List SlV} (G:Bz w B (.slice (some ⟨g,0,none⟩) (l.map (·.1)).length cap) (l.map (·.1))) (hl:l.length<=1000000):
  Calls Tryz.prog 197 #[.slice (some ⟨g,0,none⟩) (l.map (·.1)).length cap,.func (.func 199) #[] #[]] w fun e w'=>∃v',e=.returned v'/\Bz w' B v' ((l.filter fun x=>!decide (slLen x.1=0)).map (·.1))/\Below B w w':=by
 letI:Inhabited SlV:=⟨⟨.slice none 0 0,_,_,_,rfl⟩⟩
 have E:=Be G;have M:B<=g:=(World.ownsRow.lt G g rfl).1;have d:(l.map (·.1)).length=l.toArray.size:=by simp
 have I:=AnyE.slices_DeleteFunc dfLA (fun x:SlV=>x.1) (fun x=>by obtain ⟨_,A,n,c,rfl⟩:=x;rfl) (fun x=>decide (slLen x.1=0)) 199 #[] cf75 ⟨.slice none 0 0,_,_,_,rfl⟩ Tryz.zeroValue23 g 0 cap l.toArray w
  (fun W x U=>by
   refine Calls.mono (paths1_sl x W) ?_;rintro e w' ⟨rfl,rfl⟩;exact ⟨rfl,0,rfl⟩)
  (fun n os dk x _=>by
   refine Calls.mono (paths1_sl x _) ?_;rintro e w' ⟨rfl,rfl⟩;exact ⟨rfl,0,rfl⟩)
  (holds_sl G) (by rw [<-d];simp;omega) (by rw [<-d];exact E)
 change Calls Tryz.prog 197 _ _ _ at I;rw [<-d] at I;refine Calls.mono I ?_;rintro e w' ⟨rfl,q,rfl⟩;have J:(l.filter fun x=>!decide (slLen x.1=0)).length<=l.length:=DU _ _;have O:w.ownsRow B 23 1 (.slice (some ⟨g,0,none⟩) (l.map (·.1)).length cap) (l.map (·.1)).length (l.map fun x:SlV=>x.1):=G;refine ⟨_,rfl,?_,Lib.below_putRow (Below.refl _ _) M⟩;have:=Lib.ownsRow_putRow (enc:=fun x:SlV=>x.1) (q:=q) (k:=(l.filter fun x=>!decide (slLen x.1=0)).length) (ys:=(l.filter fun x=>!decide (slLen x.1=0))++List.replicate (l.length - (l.filter fun x=>!decide (slLen x.1=0)).length) ⟨.slice none 0 0,_,_,_,rfl⟩) O (by simp;omega) (by simpa using J);rw [List.take_left' rfl] at this;unfold Bz;rw [Eb];simpa using this
theorem deleteFuncL_nil (A:Option Addr) (c:Nat) (w:World):
  Calls Tryz.prog 197 #[.slice A 0 c,.func (.func 199) #[] #[]] w fun e w'=>e=.returned (.slice A 0 c)/\zb w w':=by
 have hI:Hid (∀w,Calls Tryz.prog 229 #[.slice A 0 c,.func (.func 199) #[] #[]] w fun e w'=>e=.returned (.int .i64 (-1))/\zb w w'):=fun w=>by
  go_enter Tryz.func229,Tryz.ntmps229
  go_wp2_with fail
  go_loopg [8] 0 (fun gk v wr=>v=.int .i64 0/\gk=0/\Hid (zb w wr))
  case atStart=>exact ⟨rfl,rfl,zb.refl _⟩
  case round=>
   obtain ⟨rfl,rfl,E⟩:=hrel
   go_wp2_with fail
   go_ret;exact ⟨rfl,E.out⟩
 go_enter Tryz.func197,Tryz.ntmps197
 go_wp2_with fail
 refine (hI.out w).mono ?_;rintro e w2 ⟨rfl,d⟩
 go_wp2_with fail
 go_ret;exact ⟨rfl,d⟩
def PathsPostY (Y:Nat->Prop) (w:World) (m:MZ) (ch:List Int) (e:Ending) (w':World):Prop:=
 ∃v,e=.returned (.tuple #[v,.bool (okC m ch)])/\zb w w'/\zU w' (fun b=>Y b\/w.heap.size<=b) v (zp m ch)
theorem filter_pair {w:World} {ok:Nat->Prop}:∀(l:List SlV) (ps:List (List Int)),l.length=ps.length->(∀(i:Nat) x,ps[i]?=some x->∃u,(l.map (·.1))[i]?=some u/\zk w ok u x)->
  ((l.filter fun x=>!decide (slLen x.1=0)).length=(ps.filter fun p=>decide (p.length≠0)).length)/\∀(i:Nat) x,(ps.filter fun p=>decide (p.length≠0))[i]?=some x->∃u,((l.filter fun x=>!decide (slLen x.1=0)).map (·.1))[i]?=some u/\zk w ok u x
 | [],[],_,_=>⟨rfl,fun i x d=>by simp at d⟩
 | a :: l,p :: ps,O,h=>by
  obtain ⟨I,J⟩:=filter_pair l ps (by simpa using O) (fun i x d=>by simpa using h (i+1) x (by simpa using d));obtain ⟨u,U,M⟩:=h 0 p rfl;have G:a.1=u:=by simpa using U
  have E:slLen a.1=p.length:=by
   obtain ⟨A,c,e,_⟩:=id M;rw [G,e];rfl
  by_cases hp:p.length=0
  ·rw [DZ (by simp [E,hp]),DZ (by simp [hp])];exact ⟨I,J⟩
  ·rw [Ek (by simp [E,hp]),Ek (by simp [hp])];refine ⟨by simp [I],fun i x d=>?_⟩
   match i,d with
   | 0,d=>
    have:p=x:=by simpa using d
    subst this;exact ⟨u,by simp [G],M⟩
   | i+1,d=>simpa using J i x (by simpa using d)
theorem rPathsY_calls {okc Y:Nat->Prop} {v vc:Value} {ch:List Int} (w:World) (hm:zF w Y v m) (hl:Lens m) (b5:zk w okc vc ch) (e3:ch.length<=20000000000000):
  Calls Tryz.prog 146 #[v,vc] w (PathsPostY Y w m ch):=by
 have d5:=zh hm;obtain ⟨vfr,vup,vts,rfl,-,-,-⟩:=hm;have c6:=zh b5;obtain ⟨A,c,rfl,f6,-⟩:=b5;have HL:=zh hl;clear hl
 go_enter Tryz.func146,Tryz.ntmps146
 go_wp2_with fail
 generalize b8:w.alloc (.cells #[.int .i64 m.w,.int .i64 m.h,.int .i64 m.l,vfr,vup,vts] 32)=wa;have O:zb w wa:=by rw [<-b8];exact (zb.refl w).alloc _
 have c8:Hid (w.heap.size<=wa.heap.size):=O.size;clear b8;refine (stateOf_calls wa (d5.out.below O) HL.out (c6.out.below O) e3).mono ?_;rintro e w1 ⟨v1,rfl,b9,J⟩;have H1:=zh J;have M:zb w w1:=O.trans b9;have a9:Hid (w.heap.size<=w1.heap.size):=M.size;clear J b9;obtain ⟨bb,a4⟩:=Ez (okC m ch);rw [<-a4] at H1⊢;have d:=zh a4;clear a4;cases bb
 ·have E:Hid (PathsPostY Y w m ch (.returned (.tuple #[.slice none 0 0,.bool false])) w1):=⟨_,by rw [<-d.out],M,by unfold zp;rw [<-d.out];exact ⟨[],⟨none,0,rfl,Dq _,AI.nil _ _ _ _⟩,fun i x hx=>by simp at hx⟩⟩
  go_wp2_with fail
  go_ret2
  exact E.out
 ·have I:∃p,v1=.pointer (some ⟨p,0,none⟩)/\Dl w1 (fun b=>Y b\/wa.heap.size<=b) p m ch:=by
   rcases H1.out with ⟨h,_⟩ | ⟨_,h⟩
   ·cases h
   ·exact h
  obtain ⟨p,rfl,us,f,u,t,vc',vp,gu,e4,I⟩:=I;obtain ⟨r0,r1,r2,r3,r4,r5,r6,r7,r8⟩:=I.rules;obtain ⟨hg,hc⟩:=okC_true d.out.symm;obtain ⟨vs,⟨Ap,cp,rfl,d9,a6⟩,a5⟩:=I.ps;have a7:vs.length=(zC m ch).length:=by have:=a6.1;omega
  have f0:(zC m ch).length<=6:=Dt hc.psOk.pl hg.tk
  have b0:Hid (Aw w1 (fun b=>Y b\/wa.heap.size<=b) 1 (.slice Ap (zC m ch).length cp) vs.length vs):=by
   show Aw _ _ _ _ _ _;rw [a7];exact ⟨Ap,cp,rfl,d9,a6⟩
  have c9:=zh a5
  have b3:∀u∈vs,∃A n c,u=.slice A n c:=fun u hu=>by
   obtain ⟨i,hi,rfl⟩:=DX hu;obtain ⟨u',J,A',c',e,_⟩:=a5 i _ (Do (by omega));rw [Do hi] at J;injection J with J;exact ⟨_,_,_,J.trans e⟩
  have b1:=zh b3;have b2:=zh a7;have d6:Hid (zp m ch=(zC m ch).filter fun p=>decide (p.length≠0)):=by show _=_;unfold zp;rw [if_pos d.out.symm]
  clear I e4 hg hc H1 a5 a6 b3 a7;have f1:=zb.refl w1
  go_wp2_with fail
  refine (cloneL_calls w1 b0.out (fun u hu=>by obtain ⟨A,n,c,rfl⟩:=b1.out u hu;rfl) (by have:=b2.out;omega)).mono ?_;rintro e w2 ⟨v2,rfl,a1,G⟩;obtain ⟨l,hl⟩:∃l:List SlV,l.map (·.1)=vs:=⟨vs.attachWith _ b1.out,by simp⟩;have b6:l.length=(zC m ch).length:=by have:=congrArg List.length hl;have:=b2.out;simp at *;omega
  have b4:=filter_pair (w:=w1) (ok:=fun b=>Y b\/wa.heap.size<=b) l (zC m ch) b6 (by rw [hl];exact c9.out);have d4:=zh b4;have f4:zb w w2:=M.trans a1
  have a0:∃v3 w3,Calls Tryz.prog 197 #[v2,.func (.func 199) #[] #[]] w2 (fun e w'=>∃v',e=.returned v'/\Bz w' w1.heap.size v' ((l.filter fun x=>!decide (slLen x.1=0)).map (·.1))/\zb w1 w')/\v3=v2/\w3=w2:=by
   refine ⟨v2,w2,?_,rfl,rfl⟩;rcases Ec vs.length with h0 | h0
   ·have e5:=DJ h0;subst e5;have e2:l=[]:=DJ (by have:=congrArg List.length hl;simpa using this);subst e2;obtain ⟨A',c',rfl,f5,-⟩:=Aw.of_own G;refine (deleteFuncL_nil A' c' w2).mono ?_;rintro e w3 ⟨rfl,hE⟩;exact ⟨_,rfl,Bz.ext G hE,a1.trans hE⟩
   ·have a2:=G;unfold Bz at a2;obtain ⟨g,cap,rfl,hg,f7⟩:=World.ownsRow.form a2 h0;subst hl;refine (deleteFuncL_calls G (by omega)).mono ?_;rintro e w3 ⟨v3,rfl,U,d8⟩;exact ⟨_,rfl,U,Below.trans a1 d8⟩
  obtain ⟨_,_,a0,_,_⟩:=a0;have c7:=zh a0;clear G a0 a1 hl b6 b4
  go_wp2_with fail
  refine c7.out.mono ?_;rintro e w3 ⟨v3,rfl,U,a8⟩
  have E:Hid (PathsPostY Y w m ch (.returned (.tuple #[v3,.bool true])) w3):=by
   refine ⟨v3,by rw [<-d.out],M.trans a8,?_⟩;rw [d6.out];obtain ⟨J,h2⟩:=d4.out;have h3:Aw w3 (fun b=>Y b\/w.heap.size<=b) 1 v3 (((l.filter fun x=>!decide (slLen x.1=0)).map (·.1)).length) ((l.filter fun x=>!decide (slLen x.1=0)).map (·.1)):=(Aw.of_own U).weaken fun b hb=>.inr (Dt a9.out hb)
   rw [Eb,J] at h3
   exact ⟨_,h3,fun i x hx=>by
    obtain ⟨u,hu,hi⟩:=h2 i x hx;exact ⟨u,hu,(hi.weaken fun b hb=>hb.imp id (fun h=>Dt c8.out h)).below a8⟩⟩
  clear U a8
  go_wp2_with fail
  go_ret2
  exact E.out
end
end Go.Proofs.YtnmkmhpgnpojbaaGreatDoor
