import Derived.Test.YtcnaogdgjkpkmaaGreatDoorWSr
import Derived.Deep.CutBlock
set_option linter.unusedVariables false
set_option linter.unusedSimpArgs false
set_option maxRecDepth 100000
set_option maxHeartbeats 16000000
namespace Go.Proofs.YtcnaogdgjkpkmaaGreatDoor
variable {a:Act} {xs:List Value} {B b4 cap gK gS i k n sz:Nat} {A:Option Addr} {p':PT} {b z:Value}
section
open Go.RowKit
attribute [local go_sem ↓] Go.wp_at_zero Go.wp_at_succ
theorem run_append_empty {ok:Nat->Prop} (w:World) (base:Nat) (t ty e:TypeId) (z:Value) (sz bytes:Nat) (I:ElemI t e z sz bytes) (g:Nat)
  (G:w.ownsRow base e sz (.slice (some ⟨g,0,none⟩) 0 0) 0 []) (u:Value) (m:Nat) (news:List Value) (hu:An w ok sz u m news) (h1:∀u∈news,u.oneCell'=true)
  (O:m<=maxLen) (E:m*bytes<=140737488355328) (J:base<=w.heap.size):
  ∃v' w',(Builtin.append_ #[t,t] ty #[.slice (some ⟨g,0,none⟩) 0 0,u]).run Tryz.prog w=.ok v' w'/\w'.ownsRow base e sz v' m news/\zc w w'/\(v'.ownBlock=some g\/v'.ownBlock=some w.heap.size):=by
 obtain ⟨v',w',K,ho,-,hb⟩:=Di (ok:=ok) w base t ty e z sz bytes I _ 0 [] G u m news hu h1 (by omega) (by rwa [Nat.zero_add]) J;rw [Nat.zero_add,List.nil_append] at ho;refine ⟨v',w',K,ho,?_,hb⟩;obtain ⟨i,V,hz,D,Q⟩:=info_parts I.hi;have ht:=I.ht;obtain ⟨A,c,rfl,hc,hl,d⟩:=hu
 have o:w.heap[g]?=some (.cells #[] e (0,0)):=by
  rcases G.2 with ⟨e,_⟩ | ⟨g',cap,cur,e,_,hg,_,_,L,_⟩
  ·cases e
  ·simp only [Value.slice.injEq,Option.some.injEq,Addr.mk.injEq,and_true,true_and] at e;obtain ⟨rfl,rfl⟩:=e;rw [Nat.zero_mul] at L;rw [Array.eq_empty_of_size_eq_zero L] at hg;exact hg
 rcases A with _ | a
 ·have hm:m=0:=by
   rcases Em m with h | h
   ·exact h
   ·obtain ⟨b,off,e,_⟩:=d h;cases e
  subst hm;have h:=run_append_room_src (P:=Tryz.prog) w t t ty e i ht V g 0 0 0 (.slice none 0 c) 0 [] (by rw [D];exact Src.ofNil w ht c) (by omega) (by simp) (by simp);rw [De] at h;rw [h] at K;injection K with _ e;subst e;exact zc.refl _
 ·have r:∀j u,news[j]?=some u->w.cell? (a.add j)=some u:=fun j u hj=>by
   rcases Em m with h | h
   ·subst h;have hn:news=[]:=DU (by simpa using hl);subst hn;simp at hj
   ·obtain ⟨b,off,he,_,U⟩:=d h;simp only [Option.some.injEq] at he;subst he;rw [Addr.add_lit];exact U j u hj
  by_cases hm:m=0
  ·subst hm;have hn:news=[]:=DU (by simpa using hl);subst hn;have h:=run_append_room (P:=Tryz.prog) w t ty e i ht V g 0 0 #[] o a 0 c [] (by simp) r h1 (by omega) (by simp);rw [h] at K;injection K with _ e;subst e;refine ⟨rfl,rfl,rfl,by simp [World.setRow],fun k hk=>?_⟩;by_cases M:k=g
   ·subst M;rw [setRow_heap w k #[] _ _ _ o,o];simp
   ·exact setRow_other w g k _ M
  ·have h:=run_append_grow (P:=Tryz.prog) w t ty e i z ht V hz ⟨g,0,none⟩ 0 0 [] (by simp) (by simp) a m c news (by rw [D];exact hl) r (by omega) (by simp only [maxLen] at O;omega) (growslice_fits (by omega) (by rw [Nat.zero_add,Q];exact E));rw [h] at K;injection K with _ e;subst e;exact (zc.refl w).drew.alloc _
theorem Dj {ok:Nat->Prop} {o:Oper} {K:Act->World->Prop} {Q:Exit->Act->World->Prop} (W:World) (s x:Operand) {t e:TypeId} {bytes:Nat} (I:ElemI t e z sz bytes)
  (L:o.op=.call { callee:=.builtin .append,args:=#[s,x],argTypes:=#[t,t] }) (base m g:Nat) (l2:List Value) (v u:Value) (O:a.eval s=v) (V:v=.slice (some ⟨g,0,none⟩) 0 0) (hx:a.eval x=u)
  (r:W.ownsRow base e sz v 0 []) (U:An W ok sz u m l2) (h1:∀u∈l2,u.oneCell'=true) (d:base<=W.heap.size) (D:m<=maxLen) (J:m*bytes<=140737488355328)
  (h:∀v' w',w'.ownsRow base e sz v' m l2->zc W w'->(v'.ownBlock=some g\/v'.ownBlock=some W.heap.size)->K (a.put o.dst v') w'):Oper.wp Tryz.prog o a W K Q:=by
 subst V;obtain ⟨v',w',M,h2,E,G⟩:=run_append_empty (ok:=ok) W base t o.type e z sz bytes I g r u m l2 U h1 D J d;unfold Oper.wp execOp;simp only [L,resolve,invoke,builtin,Sem.run_bind,Sem.run_pure,Result.andThen_ok,List.map_toArray,List.map_cons,List.map_nil,O,hx,M];exact h v' w' h2 E G
theorem prv_ones {W:World} {ok:Nat->Prop} {ks:List PT} {cs:List Value} (G:cs.length=ks.length*3) (he:∀(i:Nat) (o:i<ks.length),Ay W ok (.agg #[cs.getD (i*3) undef,cs.getD (i*3+1) undef,cs.getD (i*3+2) undef]) ks[i]):∀u∈cs,u.oneCell'=true:=by
 intro u E;obtain ⟨j,D,rfl⟩:=Ei E;obtain ⟨As,c1,Ak,c2,e,-⟩:=(he (j / 3) (by omega)).form;injection e with e;have e0:=congrArg (fun a:Array Value=>a[0]?) e;have e1:=congrArg (fun a:Array Value=>a[1]?) e;have e2:=congrArg (fun a:Array Value=>a[2]?) e;simp at e0 e1 e2;have d:∀i,i=j->cs[j]=cs.getD i undef:=fun i o=>by subst o;rw [DB,DA D];rfl
 have r:j=j / 3*3\/j=j / 3*3+1\/j=j / 3*3+2:=by omega
 rcases r with h | h | h
 ·rw [d _ h.symm,DB,e0];rfl
 ·rw [d _ h.symm,DB,e1];rfl
 ·rw [d _ h.symm,DB,e2];rfl
theorem intsOne29 {l:List Int}:∀u∈l.map (Value.int .i64),u.oneCell'=true:=by
 intro u d;obtain ⟨_,_,rfl⟩:=Ey.1 d;rfl
def pbk:Value->Option Nat
 | .pointer (some a)=>some a.block
 | _=>none
def obk (j:Nat):Value->Option Nat
 | .agg cs=>if j=10 then (cs.getD 2 undef).ownBlock else none
 | v=>v.ownBlock
def VQ (B bp:Nat) (t:Int) (vs vk:Value) (s:List Int) (n:Nat) (cs:List Value) (j:Nat) (x:Value) (W:World):Prop:=match j with
 | 0=>x=.pointer (some ⟨bp,0,none⟩) | 1=>x=.int .i64 t | 2=>∃g,x=.slice (some ⟨g,0,none⟩) 0 0/\W.ownsRow B 3 1 x 0 [] | 3=>x=.pointer (some ⟨bp,1,none⟩) | 4=>x=vs | 5=>zF W B x s
 | 6=>∃g,x=.slice (some ⟨g,0,none⟩) 0 0/\W.ownsRow B 27 3 x 0 [] | 7=>x=.pointer (some ⟨bp,2,none⟩) | 8=>x=vk | 9=>W.ownsRow B 27 3 x n cs
 | 10=>∃y z,x=.agg #[.int .i64 t,y,z]/\zF W B y s/\W.ownsRow B 27 3 z n cs
 | 11=>∃g,x=.pointer (some ⟨g,0,none⟩)/\B<=g/\zj W g 27 #[.int .i64 0,.slice none 0 0,.slice none 0 0]
 | _=>True
theorem VQ.st {bp:Nat} {t:Int} {vs vk:Value} {s:List Int} {cs:List Value}:StV (VQ B bp t vs vk s n cs):=fun j x W W' d h=>
 match j,h with
 | 0,h | 1,h | 3,h | 4,h | 7,h | 8,h=>h
 | 2,⟨g,e,h⟩ | 6,⟨g,e,h⟩=>⟨g,e,Ag h d⟩
 | 5,h | 9,h=>Ag h d
 | 10,⟨y,z,e,h1,h2⟩=>⟨y,z,e,Ag h1 d,Ag h2 d⟩
 | 11,⟨g,e,h1,h2⟩=>⟨g,e,h1,h2.ext d⟩
 | _+12,_=>trivial
def DQ (j:Nat):List Nat:=match j with | 1=>[0] | 4=>[3] | 5=>[2,4] | 8=>[7] | 9=>[6,8] | 10=>[1,5,9] | _=>[]
def XQ (e:Nat->Bool) (v:Nat->Value) (W:World):Prop:=e 11=true->∀j∈[6,9,10],e j=true->∀g,pbk (v 11)=some g->obk j (v j)≠some g
section
variable {e:Nat->Bool} {v:Nat->Value} {W W':World} {j:Nat} {x:Value}
theorem XQ.other (h:XQ e v W) (r:j∉[6,9,10,11]):XQ (zV e j true) (zV v j x) W':=by
 intro h1 k D d g o;have n1:(11:Nat)≠j:=fun q=>r (by simp [<-q])
 have n2:k≠j:=fun q=>r (by rw [<-q];simp at D⊢;omega)
 rw [Az e true n1] at h1;rw [Az v x n1] at o;rw [Az e true n2] at d;rw [Az v x n2];exact h h1 k D d g o
theorem XQ.kid (h:XQ e v W) (D:j∈[6,9,10]) (G:e 11=true->∀g,pbk (v 11)=some g->obk j x≠some g):XQ (zV e j true) (zV v j x) W':=by
 intro h1 k E o g r;have n1:(11:Nat)≠j:=fun q=>by subst q;simp at D
 rw [Az e true n1] at h1;rw [Az v x n1] at r;by_cases d:k=j
 ·subst d;rw [Bh];exact G h1 g r
 ·rw [Az e true d] at o;rw [Az v x d];exact h h1 k E o g r
theorem XQ.box (D:∀k∈[6,9,10],e k=true->∀g,pbk x=some g->obk k (v k)≠some g):XQ (zV e 11 true) (zV v 11 x) W':=by
 intro h1 k r d g o;have n1:k≠11:=fun q=>by subst q;simp at r
 rw [Bh] at o;rw [Az e true n1] at d;rw [Az v x n1];exact D k r d g o
end
structure OQ (w1 W:World) (ok:Nat->Prop) (g:Nat) (t:Int) (s:List Int) (ks:List PT) (cs:List Value) (vS vK:Value):Prop where
 ext:zc w1 W
 lo:w1.heap.size<=g
 box:zj W g 27 #[.int .i64 t,vS,vK]
 side:zF W w1.heap.size vS s
 own:W.ownsRow w1.heap.size 27 3 vK ks.length cs
 each:∀(i:Nat) (hi:i<ks.length),Ay W ok (.agg #[cs.getD (i*3) undef,cs.getD (i*3+1) undef,cs.getD (i*3+2) undef]) ks[i]
 ne:vK.ownBlock≠some g
 hok:∀b,ok b->b<w1.heap.size
def OZ (w1 W:World) (ok:Nat->Prop) (g c:Nat) (p:PT):Prop:=∃As cs Ak ck p',zj W g 27 #[.int .i64 p'.task,.slice As p'.side.length cs,.slice Ak p'.kids.length ck]/\
 Ay W (fun b=>ok b\/w1.heap.size<=b) (.agg #[.int .i64 p'.task,.slice As p'.side.length cs,.slice Ak p'.kids.length ck]) p'/\zc w1 W/\OddP c p p'
section
variable {w1 W W':World} {ok:Nat->Prop} {g c:Nat} {t t':Int} {s s':List Int} {ks ks':List PT} {cs cs':List Value} {vS vK v vS' vK':Value} {p:PT}
theorem OZ.of {a:Value} (o:zj W g 27 #[a,b,z]) (hp:Ay W (fun b=>ok b\/w1.heap.size<=b) (.agg #[a,b,z]) p') (d:zc w1 W) (h:OddP c p p'):OZ w1 W ok g c p:=by
 obtain ⟨As,cs,Ak,ck,e,-⟩:=hp.form;injection e with e;have e0:=congrArg (fun a:Array Value=>a[0]?) e;have e1:=congrArg (fun a:Array Value=>a[1]?) e;have e2:=congrArg (fun a:Array Value=>a[2]?) e;simp at e0 e1 e2;subst e0 e1 e2;exact ⟨As,cs,Ak,ck,p',o,hp,d,h⟩
theorem OZ.node (o:zj W g 27 #[.int .i64 t',vS',vK']) (D:zn W (fun b=>ok b\/w1.heap.size<=b) vS' s') (r:An W (fun b=>ok b\/w1.heap.size<=b) 3 vK' ks'.length cs')
  (he:∀(i:Nat) (E:i<ks'.length),Ay W (fun b=>ok b\/w1.heap.size<=b) (.agg #[cs'.getD (i*3) undef,cs'.getD (i*3+1) undef,cs'.getD (i*3+2) undef]) ks'[i]) (d:zc w1 W) (h:OddP c p (.node t' s' ks')):OZ w1 W ok g c p:=.of o (.mk D r he) d h
theorem CD (h:zF W B v s):zn W (fun b=>ok b\/B<=b) v s:=zn.weaken (An.of_own h) fun b d=>.inr d
theorem ownK_ok (h:W.ownsRow B 27 3 v n cs):An W (fun b=>ok b\/B<=b) 3 v n cs:=(An.of_own h).weaken fun b d=>.inr d
theorem OQ.begin {a:Value} (L:zc w1 W) (d:w1.heap.size<=g) (E:zj W g 27 #[a,b,z]) (J:zF W w1.heap.size vS s) (M:W.ownsRow w1.heap.size 27 3 vK ks.length cs)
  (he:∀(i:Nat) (K:i<ks.length),Ay W ok (.agg #[cs.getD (i*3) undef,cs.getD (i*3+1) undef,cs.getD (i*3+2) undef]) ks[i]) (r:vK.ownBlock≠some g) (D:∀b,ok b->b<w1.heap.size):
  OQ w1 (((W.setCell ⟨g,0,none⟩ (.int .i64 t)).setCell ⟨g,1,none⟩ vS).setCell ⟨g,2,none⟩ vK) ok g t s ks cs vS vK:=by
 have I:∀k,k≠g->(((W.setCell ⟨g,0,none⟩ (.int .i64 t)).setCell ⟨g,1,none⟩ vS).setCell ⟨g,2,none⟩ vK).heap[k]?=W.heap[k]?:=fun k G=>((AT k G).trans (AT k G)).trans (AT k G)
 exact ⟨((L.setCell (p:=⟨g,0,none⟩) d _).setCell (p:=⟨g,1,none⟩) d _).setCell (p:=⟨g,2,none⟩) d _,d,((E.set (k:=0) _).set (k:=1) _).set (k:=2) _,
  zy J fun b o=>I b (fun e=>by subst e;exact zg J E (by decide) o),zy M fun b o=>I b (fun e=>by subst e;exact r o),
  fun i K=>(he i K).keepW (fun b E _=>I b (fun e=>by have:=D b E;omega)) fun _ h=>h,r,D⟩
theorem OQ.same (h:OQ w1 W ok g t s ks cs vS vK) (r:(PT.node t s ks).LenN c):OZ w1 W ok g c (.node t s ks):=
 .node h.box (CD h.side) (ownK_ok h.own) (fun i o=>(h.each i o).wk fun b d _=>.inl d) h.ext (odd_top r (by omega))
theorem OQ.box' (h:OQ w1 W ok g t s ks cs vS vK) (r:∀b,b≠g->W'.heap[b]?=W.heap[b]?) (D:zc w1 W') (d:zj W' g 27 #[.int .i64 t',vS,vK]):OQ w1 W' ok g t' s ks cs vS vK:=
 ⟨D,h.lo,d,zy h.side fun b o=>r b (fun e=>by subst e;exact zg h.side h.box (by decide) o),zy h.own fun b o=>r b (fun e=>by subst e;exact h.ne o),
 fun i E=>(h.each i E).keepW (fun b d G=>r b (fun e=>by have:=h.hok b d;have:=h.lo;omega)) fun _ h=>h,h.ne,h.hok⟩
theorem OQ.setB {x:Value} (h:OQ w1 W ok g t s ks cs vS vK):zc w1 (W.setCell ⟨g,k,none⟩ x):=h.ext.setCell (p:=⟨g,k,none⟩) h.lo x
theorem OQ.finT (h:OQ w1 W ok g t s ks cs vS vK) (r:(PT.node t s ks).LenN c) (t':Int):OZ w1 (W.setCell ⟨g,0,none⟩ (.int .i64 t')) ok g c (.node t s ks):=by
 have h2:=h.box' (AT (x:=.int .i64 t')) h.setB (h.box.set (k:=0) _);exact .node h2.box (CD h2.side) (ownK_ok h2.own) (fun i o=>(h2.each i o).wk fun b d _=>.inl d) h2.ext (odd_top r (by omega))
theorem OQ.grown {r:Option Nat} (h:OQ w1 W ok g t s ks cs vS vK) (d:W.grownBy W' r) (D:∀b,r=some b->w1.heap.size<=b/\b≠g):
  zc w1 W'/\zj W' g 27 #[.int .i64 t,vS,vK]/\∀(i:Nat) (E:i<ks.length),Ay W' ok (.agg #[cs.getD (i*3) undef,cs.getD (i*3+1) undef,cs.getD (i*3+2) undef]) ks[i]:=
 ⟨h.ext.grown d h.ext.size fun k I=>(D k I).1,(d.block g (zb h.box) (fun e=>(D g e.symm).2 rfl)).trans h.box,fun i E=>(h.each i E).keepW (fun b G o=>d.block b o (fun e=>by have:=(D b e.symm).1;have:=h.hok b G;omega)) fun _ h=>h⟩
theorem OQ.ex (h:OQ w1 W ok g t s ks cs vS vK) (d:zc W W'):OQ w1 W' ok g t s ks cs vS vK:=
 ⟨h.ext.trans d,h.lo,h.box.ext d,Ag h.side d,Ag h.own d,fun i o=>(h.each i o).ext d,h.ne,h.hok⟩
theorem OQ.side_ne (h:OQ w1 W ok g t s ks cs vS vK):∀b,vS.ownBlock=some b->w1.heap.size<=b/\b≠g:=fun b d=>⟨(World.ownsRow.lt h.side b d).1,fun e=>by subst e;exact zg h.side h.box (by decide) d⟩
theorem OQ.kids_ne (h:OQ w1 W ok g t s ks cs vS vK):∀b,vK.ownBlock=some b->w1.heap.size<=b/\b≠g:=fun b d=>⟨(World.ownsRow.lt h.own b d).1,fun e=>by subst e;exact h.ne d⟩
theorem own_kind {e:TypeId} (h:W.ownsRow B e sz v n xs):∀b,v.ownBlock=some b->∃cs,zj W b e cs:=fun b d=>by
 rcases h.2 with ⟨rfl,-⟩ | ⟨g',cap,cur,rfl,-,hh,-⟩
 ·cases d
 ·have e2:g'=b:=by simpa [Value.ownBlock] using d
  subst e2;exact ⟨cur,hh⟩
theorem OQ.finS {r:Option Nat} (h:OQ w1 W ok g t s ks cs vS vK) (O:(PT.node t s ks).LenN c) (I:∀b,r=some b->vS.ownBlock=some b) (G:W.grownBy W' r) (J:zF W' w1.heap.size v s') (D:s'.length<=s.length+1):OZ w1 (W'.setCell ⟨g,1,none⟩ v) ok g c (.node t s ks):=by
 obtain ⟨K,E,he⟩:=h.grown G fun b d=>h.side_ne b (I b d)
 have L:W'.ownsRow w1.heap.size 27 3 vK ks.length cs:=own_kept31 h.own G fun b d=>by obtain ⟨cs,d⟩:=own_kind h.side b (I b d);exact ⟨_,_,d,by decide⟩
 have o:=AT (W:=W') (g:=g) (k:=1) (x:=v);refine .node (E.set (k:=1) v) (CD (zy J fun b d=>o b (fun e=>by subst e;exact zg J E (by decide) d))) (ownK_ok (zy L fun b d=>o b (fun e=>by subst e;exact h.ne d))) (fun i M=>(he i M).keepW (fun b d Q=>o b (fun e=>by have:=h.hok b d;have:=h.lo;omega)) fun _ h=>.inl h) (K.setCell (p:=⟨g,1,none⟩) h.lo v) (odd_top O D)
theorem OQ.finSe {z:Int} (h:OQ w1 W ok g t s ks cs (.slice (some ⟨gS,0,none⟩) n cap) vK) (K:(PT.node t s ks).LenN c) (M:n=s.length) (O:i<s.length):OZ w1 (W.setCell ⟨gS,i,none⟩ (.int .i64 z)) ok g c (.node t s ks):=by
 subst M;obtain ⟨d,o⟩:=h.side_ne gS rfl;obtain ⟨cb,r⟩:=own_kind h.side gS rfl;have E:=AT (W:=W) (g:=gS) (k:=i) (x:=.int .i64 z);have G:=(World.ownsRow.stored h.side i (.int .i64 z)).1;have e:(s.map (Value.int .i64)).set i (.int .i64 z)=(s.set i z).map (Value.int .i64):=by rw [List.map_set]
 have I:zF (W.setCell ⟨gS,i,none⟩ (.int .i64 z)) w1.heap.size (.slice (some ⟨gS,0,none⟩) s.length cap) (s.set i z):=by
  unfold zF;rw [List.length_set,<-e];exact G
 refine .node ((E g (fun e=>o e.symm)).trans h.box) (CD I) (ownK_ok (zy h.own fun b D=>E b (fun e=>by subst e;exact zg h.own r (by decide) D))) (fun j J=>(h.each j J).keepW (fun b r L=>E b (fun e=>by have:=h.hok b r;omega)) fun _ h=>.inl h) (h.ext.setCell (p:=⟨gS,i,none⟩) d _) (odd_top K (by simp))
theorem lenN_kid (d:(PT.node t s ks).LenN c) (o:i<ks.length):ks[i].LenN (c+1):=by
 unfold PT.LenN at d;exact lenN_mono (by omega) _ (lenNL_mem d.2.2 _ (DD o))
theorem sizeL_appO:∀(a b:List PT),PT.sizeL (a++b)=PT.sizeL a+PT.sizeL b
 | [],b=>by simp [PT.sizeL]
 | k :: a,b=>by rw [List.cons_append];simp only [PT.sizeL,sizeL_appO a b];omega
theorem OQ.finK (h:OQ w1 W ok g t s ks cs vS vK) (O:(PT.node t s ks).LenN c) (M:W.grownBy W' vK.ownBlock) (V:W'.ownsRow w1.heap.size 27 3 v (ks.length+1) (cs++[.int .i64 t',.slice none 0 0,.slice none 0 0])) (J:v.ownBlock=vK.ownBlock\/v.ownBlock=some W.heap.size):OZ w1 (W'.setCell ⟨g,2,none⟩ v) ok g c (.node t s ks):=by
 obtain ⟨Q,K,he⟩:=h.grown M h.kids_ne;have o:cs.length=ks.length*3:=h.own.1
 have G:v.ownBlock≠some g:=by
  rcases J with e | e
  ·rw [e];exact h.ne
  ·rw [e];intro q;injection q with q;have:=zb h.box;omega
 have L:zF W' w1.heap.size vS s:=own_kept31 h.side M fun b d=>by obtain ⟨cs,d⟩:=own_kind h.own b d;exact ⟨_,_,d,by decide⟩
 have I:=AT (W:=W') (g:=g) (k:=2) (x:=v)
 refine .node (ks':=ks++[.node t' [] []]) (K.set (k:=2) v) (CD (zy L fun b d=>I b (fun e=>by subst e;exact zg L K (by decide) d))) (ownK_ok (zy (by rw [DK];exact V) fun b d=>I b (fun e=>by subst e;exact G d))) (fun i r=>?_) (Q.setCell (p:=⟨g,2,none⟩) h.lo v)
  (odd_kids O (by omega) (fun k hk=>?_) (by simp) (by rw [sizeL_appO];simp [PT.sizeL,PT.size]))
 ·by_cases D:i<ks.length
  ·rw [Cl (by omega),Cl (by omega),Cl (by omega),List.getElem_append_left D];exact (he i D).keepW (fun b d U=>I b (fun e=>by have:=h.hok b d;have:=h.lo;omega)) fun _ h=>.inl h
  ·have E:i=ks.length:=by rw [DK,Ec] at r;omega
   subst E;have e0:(cs++[Value.int .i64 t',.slice none 0 0,.slice none 0 0]).getD (ks.length*3) undef=Value.int .i64 t':=by rw [DB,DI (by omega),o,Nat.sub_self];rfl
   have e1:(cs++[Value.int .i64 t',.slice none 0 0,.slice none 0 0]).getD (ks.length*3+1) undef=.slice none 0 0:=by rw [DB,DI (by omega),o,Nat.add_sub_cancel_left];rfl
   have e2:(cs++[Value.int .i64 t',.slice none 0 0,.slice none 0 0]).getD (ks.length*3+2) undef=.slice none 0 0:=by rw [DB,DI (by omega),o,Nat.add_sub_cancel_left];rfl
   rw [e0,e1,e2,List.getElem_append_right (DC _)];simp only [Nat.sub_self,List.getElem_cons_zero];exact .mk (cs:=[]) (zn.nil _ _) ⟨none,0,rfl,DC _,AG.nil _ _ _ _⟩ (fun i r=>absurd r (by simp))
 ·rcases Er.1 hk with hk | hk
  ·obtain ⟨i,r,rfl⟩:=Ei hk;exact lenN_kid O r
  ·rw [Ej.1 hk];exact leaf_lenN _ _
theorem OQ.finD (h:OQ w1 W ok g t s ks cs vS (.slice (some ⟨gK,0,none⟩) n cap)) (J:(PT.node t s ks).LenN c) (U:n=ks.length) (hp:0<ks.length):OZ w1 (W.setCell ⟨g,2,none⟩ (.slice (some ⟨gK,3,none⟩) (n - 1) (cap - 1))) ok g c (.node t s ks):=by
 subst U;have G:=AT (W:=W) (g:=g) (k:=2) (x:=.slice (some ⟨gK,3,none⟩) (ks.length - 1) (cap - 1));have D:gK≠g:=fun e=>h.ne (by rw [e];rfl)
 have M:cs.length=ks.length*3:=h.own.1;have I:=AN h.own;obtain ⟨A,cc,e,-,-,V⟩:=An.of_own h.own;injection e with e1 e2 e3;subst e1 e3;obtain ⟨b,off,e,o,L⟩:=V hp;injection e with e;injection e with e1 e2 e3;subst e1 e2;have r:∀j,(cs.drop 3).getD j undef=cs.getD (j+3) undef:=fun j=>by rw [DB,DB,List.getElem?_drop,Nat.add_comm]
 refine .node (ks':=ks.drop 1) (cs':=cs.drop 3) (h.box.set (k:=2) _) (CD (zy h.side fun b d=>G b (h.side_ne b d).2)) ⟨_,_,by rw [EA],by rw [EA];omega,by rw [EA,EA];omega,fun _=>⟨gK,3,rfl,.inr o,fun j u K=>?_⟩⟩ (fun i E=>?_) h.setB
  (odd_kids J (by omega) (fun k O=>?_) (by rw [EA];omega) (by have:=sizeL_drop1 ks;omega))
 ·rw [List.getElem?_drop] at K;have:=L (3+j) u K;rw [Nat.zero_add] at this;rw [DS (a:=⟨gK,3+j,none⟩) (G gK D)];exact this
 ·rw [EA] at E;rw [r,r,r,List.getElem_drop];have h2:=h.each (1+i) (by omega);rw [show (1+i)*3=i*3+3 from by omega,show i*3+3+1=i*3+1+3 from by omega,show i*3+3+2=i*3+2+3 from by omega] at h2;exact h2.keepW (fun b d Q=>G b (fun e=>by have:=h.hok b d;have:=h.lo;omega)) fun _ h=>.inl h
 ·obtain ⟨i,E,rfl⟩:=Ei (List.mem_of_mem_drop O);exact lenN_kid J E
theorem OQ.finN (h:OQ w1 W ok g t s ks cs vS vK) (D:(PT.node t s ks).LenN c):OZ w1 (W.setCell ⟨g,2,none⟩ (.slice A 0 cap)) ok g c (.node t s ks):=by
 have E:=AT (W:=W) (g:=g) (k:=2) (x:=.slice A 0 cap);exact .node (ks':=[]) (cs':=[]) (h.box.set (k:=2) _) (CD (zy h.side fun b d=>E b (h.side_ne b d).2)) ⟨_,_,rfl,DR _,AG.nil _ _ _ _⟩ (fun i o=>absurd o (by simp)) h.setB (odd_kids D (by omega) (fun k r=>absurd r (Ew)) (by simp) (by simp [PT.sizeL]))
theorem OQ.finL (h:OQ w1 W ok g t s ks cs vS vK) (t':Int):OZ w1 (((W.setCell ⟨g,0,none⟩ (.int .i64 t')).setCell ⟨g,1,none⟩ (.slice none 0 0)).setCell ⟨g,2,none⟩ (.slice none 0 0)) ok g c (.node t s ks):=by
 refine .node (s':=[]) (ks':=[]) (cs':=[]) (((h.box.set (k:=0) _).set (k:=1) _).set (k:=2) _) (zn.nil _ _) ⟨none,0,rfl,DC _,AG.nil _ _ _ _⟩ (fun i d=>absurd d (by simp)) ((h.setB.setCell (p:=⟨g,1,none⟩) h.lo _).setCell (p:=⟨g,2,none⟩) h.lo _) ⟨leaf_lenN _ _,by unfold PT.size;simp [PT.sizeL]⟩
structure KQ (w1 W:World) (ok:Nat->Prop) (g:Nat) (t:Int) (s:List Int) (ks:List PT) (cs:List Value) (vS:Value) (gK cap:Nat):Prop where
 ext:zc w1 W
 lo:w1.heap.size<=g
 box:zj W g 27 #[.int .i64 t,vS,.slice (some ⟨gK,0,none⟩) ks.length cap]
 side:zF W w1.heap.size vS s
 own:W.ownsRow w1.heap.size 27 3 (.slice (some ⟨gK,0,none⟩) ks.length cap) ks.length cs
 each:∀(i:Nat) (hi:i<ks.length),Ay W (fun b=>(ok b\/w1.heap.size<=b)/\b≠gK) (.agg #[cs.getD (i*3) undef,cs.getD (i*3+1) undef,cs.getD (i*3+2) undef]) ks[i]
 ne:gK≠g
theorem OQ.kq (h:OQ w1 W ok g t s ks cs vS (.slice (some ⟨gK,0,none⟩) n cap)) (r:n=ks.length):KQ w1 W ok g t s ks cs vS gK cap:=by
 subst r;exact ⟨h.ext,h.lo,h.box,h.side,h.own,fun i o=>(h.each i o).wk fun b d _=>⟨.inl d,fun e=>by have:=h.hok b d;have:=(h.kids_ne gK rfl).1;omega⟩,fun e=>h.ne (by rw [e];rfl)⟩
theorem KQ.ex (h:KQ w1 W ok g t s ks cs vS gK cap) (d:zc W W'):KQ w1 W' ok g t s ks cs vS gK cap:=
 ⟨h.ext.trans d,h.lo,h.box.ext d,Ag h.side d,Ag h.own d,fun i o=>(h.each i o).ext d,h.ne⟩
def set3 (cs:List Value) (i:Nat) (a b z:Value):List Value:=((cs.set (i*3) a).set (i*3+1) b).set (i*3+2) z
theorem getD_set {l:List Value} {j:Nat} {x:Value}:(l.set i x).getD j undef=if i=j/\i<l.length then x else l.getD j undef:=by
 rw [DB,DB,List.getElem?_set];by_cases h:i=j
 ·subst h;by_cases h2:i<l.length
  ·simp [h2]
  ·simp [h2,DW (Nat.le_of_not_lt h2)]
 ·simp [h]
theorem KQ.set {gK cap i:Nat} {a b z:Value} {q:PT} (h:KQ w1 W ok g t s ks cs vS gK cap) (L:i<ks.length) (hp:Ay W (fun b=>(ok b\/w1.heap.size<=b)/\b≠gK) (.agg #[a,b,z]) q):
  KQ w1 (((W.setCell ⟨gK,i*3,none⟩ a).setCell ⟨gK,i*3+1,none⟩ b).setCell ⟨gK,i*3+2,none⟩ z) ok g t s (ks.set i q) (set3 cs i a b z) vS gK cap:=by
 have D:∀k,k≠gK->(((W.setCell ⟨gK,i*3,none⟩ a).setCell ⟨gK,i*3+1,none⟩ b).setCell ⟨gK,i*3+2,none⟩ z).heap[k]?=W.heap[k]?:=fun k d=>((AT k d).trans (AT k d)).trans (AT k d)
 have I:cs.length=ks.length*3:=h.own.1;have o:=(World.ownsRow.lt h.own gK rfl).1;obtain ⟨cb,G⟩:=own_kind h.own gK rfl;refine ⟨((h.ext.setCell (p:=⟨gK,i*3,none⟩) o a).setCell (p:=⟨gK,i*3+1,none⟩) o b).setCell (p:=⟨gK,i*3+2,none⟩) o z,h.lo,?_,zy h.side fun k d=>D k (fun e=>by subst e;exact zg h.side G (by decide) d),?_,fun j E=>?_,h.ne⟩
 ·rw [List.length_set];exact (D g (fun e=>h.ne e.symm)).trans h.box
 ·rw [List.length_set];exact (World.ownsRow.stored (World.ownsRow.stored (World.ownsRow.stored h.own (i*3) a).1 (i*3+1) b).1 (i*3+2) z).1
 ·rw [List.length_set] at E;have K:Ay (((W.setCell ⟨gK,i*3,none⟩ a).setCell ⟨gK,i*3+1,none⟩ b).setCell ⟨gK,i*3+2,none⟩ z) (fun b=>(ok b\/w1.heap.size<=b)/\b≠gK) (.agg #[a,b,z]) q:=hp.keepW (fun k d _=>D k d.2) fun _ h=>h
  have J:=(h.each j E).keepW (fun k d _=>D k d.2) fun _ h=>h
  unfold set3;simp only [getD_set,List.length_set];by_cases r:i=j
  ·subst r;rw [List.getElem_set_self];rw [if_neg (by omega),if_neg (by omega),if_pos ⟨rfl,by omega⟩,if_neg (by omega),if_pos ⟨rfl,by omega⟩,if_pos ⟨rfl,by omega⟩];exact K
  ·rw [List.getElem_set_ne r];rw [if_neg (by omega),if_neg (by omega),if_neg (by omega),if_neg (by omega),if_neg (by omega),if_neg (by omega),if_neg (by omega),if_neg (by omega),if_neg (by omega)];exact J
theorem KQ.fin (h:KQ w1 W ok g t s ks cs vS gK cap) (hp:OddP c p (.node t s ks)):OZ w1 W ok g c p:=
 .node h.box (CD h.side) (ownK_ok h.own) (fun i o=>(h.each i o).wk fun b d _=>d.1) h.ext hp
theorem odd_swap (o:(PT.node t s ks).LenN c) (h1:1<ks.length):OddP c (.node t s ks) (.node t s ((ks.set 0 ks[1]).set 1 ks[0])):=by
 have e1:=sizeL_set ks 0 ks[1] (by omega);have e2:=sizeL_set (ks.set 0 ks[1]) 1 ks[0] (by rw [List.length_set];omega);rw [List.getElem_set_ne (by omega)] at e2;refine odd_kids o (by omega) (fun k d=>?_) (by simp) (by omega);rcases List.mem_or_eq_of_mem_set d with d | rfl
 ·rcases List.mem_or_eq_of_mem_set d with d | rfl
  ·obtain ⟨i,r,rfl⟩:=Ei d;exact lenN_kid o r
  ·exact lenN_kid o h1
 ·exact lenN_kid o (by omega)
theorem own_take {e:TypeId} (h:W.ownsRow B e sz (.slice (some ⟨gS,0,none⟩) n cap) n xs) (I:i<=n):W.ownsRow B e sz (.slice (some ⟨gS,0,none⟩) i cap) i (xs.take (i*sz)):=by
 have hm:i*sz<=n*sz:=Nat.mul_le_mul_right _ I;rcases h.2 with ⟨o,_⟩ | ⟨g',cap',cur,o,E,G,J,r,D,d⟩
 ·cases o
 ·injection o with e1 e2 e3;injection e1 with e1;injection e1 with e1;subst e1 e3;refine ⟨by rw [Et,h.1];omega,.inr ⟨gS,cap,cur,rfl,E,G,by omega,r,D,?_⟩⟩;rw [<-d,List.take_take];congr 1;omega
theorem ints_drop (h:zF W B (.slice (some ⟨gS,0,none⟩) n cap) s) (G:n=s.length) (J:i<=n) {cc:Nat} (E:k=n - i) (d:k<=cc) (hA:0<k->A=some ⟨gS,i,none⟩):zn W (fun b=>B<=b) (.slice A k cc) (s.drop i):=by
 subst G E;obtain ⟨A',c',e,-,-,I⟩:=An.of_own h;injection e with e1 e2 e3;subst e1;refine ⟨A,cc,by rw [EA],by rw [EA];exact d,by rw [El,EA];omega,fun hp=>?_⟩;rw [EA] at hp;obtain ⟨b,off,e,r,D⟩:=I (by omega);injection e with e;injection e with e1 e2 _;subst e1 e2;refine ⟨gS,i,hA hp,r,fun j u o=>?_⟩;rw [List.map_drop,List.getElem?_drop] at o;have:=D _ u o;rw [Nat.zero_add] at this;exact this
end
theorem rem29 {k:Int} (d:0<n) (h0:0<=k) (h1:k<60):∃i:Nat,i<n/\i<60/\k.tmod (n:Int)=(i:Int)/\IntKind.i64.wrap (k.tmod (n:Int))=(i:Int):=by
 obtain ⟨y,rfl⟩:∃y:Nat,k=(y:Int):=⟨k.toNat,by omega⟩;have hm:((y:Nat):Int).tmod (n:Int)=((y % n:Nat):Int):=rfl;have h2:=Nat.mod_lt y d;have o:=Nat.mod_le y n;exact ⟨y % n,h2,by omega,hm,by rw [hm,DY];omega⟩
theorem odd_end {W:World} {x y:Value} {R:Ending->World->Prop} (o:a.tmps[4]?=some (.pointer (some ⟨b4,0,none⟩))) (r:a.defers=[]) (d:zj W b4 27 #[x,y,z]) (h:R (.returned (.agg #[x,y,z])) W):bodyPost Tryz.prog Tryz.f10 R Exit.ret a W:=by
 have c0:=d.cell (k:=0) rfl;have c1:=d.cell (k:=1) rfl;have c2:=d.cell (k:=2) rfl;have e:a.tmps.getD 4 undef=.pointer (some ⟨b4,0,none⟩):=by rw [Array.getD_eq_getD_getElem?,o];rfl
 exact Eu (v:=.agg #[x,y,z]) (by simp [results,Tryz.results10,go_sem,o,e,c0,c1,c2]) r h
def OddR (w:World) (ok:Nat->Prop) (c:Nat) (p:PT) (e:Ending) (w':World):Prop:=∃v' p',e=.returned v'/\zc w w'/\Ay w' (fun b=>ok b\/w.heap.size<=b) v' p'/\OddP c p p'
theorem odd_fin {w w1 wz WZ:World} {ok:Nat->Prop} {c:Nat} {p:PT} {v:Value} (d:zc w w1) (K:w.heap.size<=b4/\b4<w1.heap.size) (D:zc w1 wz) (I:Ay wz (fun b=>(ok b/\b<w.heap.size)\/w1.heap.size<=b) v p') (o:Below b4 wz WZ) (J:∀k,k<wz.heap.size->k≠b4->WZ.heap[k]?=wz.heap[k]?) (G:OddP c p p'):
  OddR w ok c p (.returned v) WZ:=
 ⟨v,p',rfl,below_le (d.trans D) o K.1,I.keepW (fun b r E=>J b E (by rcases r with ⟨_,h⟩ | h <;> omega)) (fun b r=>by rcases r with ⟨h,_⟩ | h;exact .inl h;exact .inr (by omega)),G⟩
end
end Go.Proofs.YtcnaogdgjkpkmaaGreatDoor
