import Derived.Test.YtjomnbdjajjgfaaGreatDoorWKk
import Derived.Deep.CutBlock
set_option linter.unusedVariables false
set_option linter.unusedSimpArgs false
set_option maxRecDepth 100000
set_option maxHeartbeats 16000000
namespace Go.Proofs.YtjomnbdjajjgfaaGreatDoor
variable {a:Act} {Q:Exit->Act->World->Prop} {xs:List Value} {B b4 cap gK gS i k n sz:Nat} {A:Option Addr} {P:Program} {b u0 u1 u10 u100 u101 u102 u103 u104 u105 u106 u107 u108 u109 u11 u110 u111 u112 u113 u114 u115 u116 u117 u118 u119 u12 u120 u121 u122 u123 u124 u125 u126 u127 u128 u129 u13 u130 u131 u132 u133 u134 u135 u136 u137 u138 u139 u14 u140 u141 u142 u143 u144 u145 u146 u147 u148 u149 u15 u150 u151 u152 u153 u154 u155 u156 u157 u158 u159 u16 u160 u161 u162 u163 u17 u18 u19 u2 u20 u21 u22 u23 u24 u25 u26 u27 u28 u29 u3 u30 u31 u32 u33 u34 u35 u36 u37 u38 u39 u4 u40 u41 u42 u43 u44 u45 u46 u47 u48 u49 u50 u51 u52 u53 u54 u55 u56 u57 u58 u59 u60 u61 u62 u63 u64 u65 u66 u67 u68 u69 u7 u70 u71 u72 u73 u74 u75 u76 u77 u78 u79 u8 u80 u81 u82 u83 u84 u85 u86 u87 u88 u89 u9 u90 u91 u92 u93 u94 u95 u96 u97 u98 u99 z:Value} {w:World}
section
open Go.RowKit
theorem below_le {g:Nat} {a b c:World} (h:Below B a b) (o:Below g b c) (D:B<=g):Below B a c:=h.trans ⟨o.os,o.tape,o.output,o.size,fun k E=>o.block k (by omega)⟩
theorem zM.wk {ok ok':Nat->Prop} {v:Value} {p:PT} (h:zM w ok v p) (D:∀b,ok b->b<w.heap.size->ok' b):zM w ok' v p:=h.bound.keepW (fun b o E=>rfl) (fun b o=>D b o.1 o.2)
theorem CF {P:World->Prop} {W:World} {g2:Nat} {t:TypeId} {a0 a1 a2 z0 z1 z2:Value} (h:∀WZ,zd WZ g2 t #[a0,a1,a2]->Below g2 W WZ->(∀k,k<W.heap.size->k≠g2->WZ.heap[k]?=W.heap[k]?)->P WZ) (D:zd W g2 t #[z0,z1,z2]):
  P (((W.setCell ⟨g2,0,none⟩ a0).setCell ⟨g2,1,none⟩ a1).setCell ⟨g2,2,none⟩ a2):=
 h (setL g2 0 [a0,a1,a2] W) (setL_blk [a0,a1,a2] [z0,z1,z2] [] W rfl D) (Cn g2 _ 0 W) (fun k _ o=>Co g2 k o _ 0 W)
theorem size_mem29:∀{ks:List PT},∀k∈ks,k.size<=PT.sizeL ks
 | [],k,hk=>by cases hk
 | a :: ks,k,hk=>by
  unfold PT.sizeL;rcases EG.1 hk with rfl | hk
  ·omega
  ·have:=size_mem29 k hk;omega
theorem fin_wp29 {c:Code} (w:World) (os:List Obj) (h:∀W,za w W->(∀(i:Nat) o,os[i]?=some o->W.heap[w.heap.size+i]?=some o)->c.wp P Q a W):c.wp P Q a (os.foldl World.alloc w):=h _ (Dd os w) (fun i o D=>allocs_at os w i o D)
mutual
def PT.LenN (c:Nat):PT->Prop
 | .node _ s ks=>s.length<=c/\ks.length<=c/\PT.LenNL c ks
def PT.LenNL (c:Nat):List PT->Prop
 | []=>True
 | k :: ks=>k.LenN c/\PT.LenNL c ks
end
theorem lenNL_mem {c:Nat}:∀{ks:List PT},PT.LenNL c ks->∀k∈ks,k.LenN c
 | [],_,k,hk=>by cases hk
 | a :: ks,h,k,hk=>by
  unfold PT.LenNL at h;rcases EG.1 hk with rfl | hk
  ·exact h.1
  ·exact lenNL_mem h.2 k hk
theorem BG {c:Nat}:∀{ks:List PT},(∀k∈ks,k.LenN c)->PT.LenNL c ks
 | [],_=>by unfold PT.LenNL;exact True.intro
 | k :: ks,h=>by
  unfold PT.LenNL;exact ⟨h k (ED ..),BG fun x o=>h x (El _ o)⟩
mutual
theorem lenN_mono {c d:Nat} (o:c<=d):∀(p:PT),p.LenN c->p.LenN d
 | .node _ s ks,h=>by
  unfold PT.LenN at h⊢;exact ⟨by omega,by omega,lenNL_mono o ks h.2.2⟩
theorem lenNL_mono {c d:Nat} (o:c<=d):∀(ks:List PT),PT.LenNL c ks->PT.LenNL d ks
 | [],_=>by unfold PT.LenNL;exact True.intro
 | k :: ks,h=>by
  unfold PT.LenNL at h⊢;exact ⟨lenN_mono o k h.1,lenNL_mono o ks h.2⟩
end
def OddP (c:Nat) (p p':PT):Prop:=p'.LenN (c+1)/\p'.size<=p.size+1
theorem sizeL_set:∀(ks:List PT) (i:Nat) (q:PT) (o:i<ks.length),PT.sizeL (ks.set i q)+ks[i].size=PT.sizeL ks+q.size
 | [],i,q,o=>absurd o (by simp)
 | k :: ks,0,q,o=>by simp [PT.sizeL];omega
 | k :: ks,i+1,q,o=>by
  have:=sizeL_set ks i q (by simpa using o);simp [PT.sizeL];omega
theorem sizeL_drop1:∀(ks:List PT),PT.sizeL (ks.drop 1)<=PT.sizeL ks
 | []=>by simp [PT.sizeL]
 | k :: ks=>by simp [PT.sizeL]
theorem odd_kid {c:Nat} {t:Int} {s:List Int} {ks:List PT} {q:PT} (h:(PT.node t s ks).LenN c) (E:i<ks.length) (D:OddP c ks[i] q):OddP c (.node t s ks) (.node t s (ks.set i q)):=by
 unfold PT.LenN at h;refine ⟨?_,?_⟩
 ·unfold PT.LenN;refine ⟨by omega,by simp;omega,BG fun k o=>?_⟩;rcases List.mem_or_eq_of_mem_set o with o | rfl
  ·exact lenN_mono (by omega) _ (lenNL_mem h.2.2 k o)
  ·exact D.1
 ·have h1:=sizeL_set ks i q E;have h2:=D.2;unfold PT.size;omega
theorem odd_top {c:Nat} {t t':Int} {s s':List Int} {ks:List PT} (h:(PT.node t s ks).LenN c) (o:s'.length<=s.length+1):OddP c (.node t s ks) (.node t' s' ks):=by
 unfold PT.LenN at h;refine ⟨?_,by unfold PT.size;omega⟩;unfold PT.LenN;exact ⟨by omega,by omega,lenNL_mono (by omega) _ h.2.2⟩
theorem odd_kids {c:Nat} {t t':Int} {s s':List Int} {ks ks':List PT} (h:(PT.node t s ks).LenN c) (E:s'.length<=s.length+1) (o:∀k∈ks',k.LenN (c+1)) (D:ks'.length<=ks.length+1) (G:PT.sizeL ks'<=PT.sizeL ks+1):OddP c (.node t s ks) (.node t' s' ks'):=by
 unfold PT.LenN at h;refine ⟨?_,by unfold PT.size;omega⟩;unfold PT.LenN;exact ⟨by omega,by omega,BG o⟩
theorem leaf_lenN (c:Nat) (t:Int):(PT.node t [] []).LenN c:=by
 unfold PT.LenN;exact ⟨by simp,by simp,BG fun k o=>absurd o (EN)⟩
theorem Ag {W W':World} {e:TypeId} {v:Value} (h:W.ownsRow B e sz v n xs) (o:za W W'):W'.ownsRow B e sz v n xs:=zv h fun g D=>o.block g (World.ownsRow.lt h g D).2
end
section
open Go.RowKit
attribute [local go_sem ↓] Go.wp_at_zero Go.wp_at_succ
theorem run_append_empty {ok:Nat->Prop} (w:World) (base:Nat) (t ty e:TypeId) (z:Value) (sz bytes:Nat) (I:ElemI t e z sz bytes) (g:Nat)
  (K:w.ownsRow base e sz (.slice (some ⟨g,0,none⟩) 0 0) 0 []) (u:Value) (m:Nat) (news:List Value) (hu:Ae w ok sz u m news) (h1:∀u∈news,u.oneCell'=true)
  (V:m<=maxLen) (J:m*bytes<=140737488355328) (L:base<=w.heap.size):
  ∃v' w',(Builtin.append_ #[t,t] ty #[.slice (some ⟨g,0,none⟩) 0 0,u]).run Tryz.prog w=.ok v' w'/\w'.ownsRow base e sz v' m news/\za w w'/\(v'.ownBlock=some g\/v'.ownBlock=some w.heap.size):=by
 obtain ⟨v',w',M,ho,-,hb⟩:=Du (ok:=ok) w base t ty e z sz bytes I _ 0 [] K u m news hu h1 (by omega) (by rwa [Nat.zero_add]) L;rw [Nat.zero_add,List.nil_append] at ho;refine ⟨v',w',M,ho,?_,hb⟩;obtain ⟨i,hi,hz,G,a0⟩:=info_parts I.hi;have ht:=I.ht;obtain ⟨A,c,rfl,hc,hl,o⟩:=hu
 have D:w.heap[g]?=some (.cells #[] e (0,0)):=by
  rcases K.2 with ⟨e,_⟩ | ⟨g',cap,cur,e,_,hg,_,_,O,_⟩
  ·cases e
  ·simp only [Value.slice.injEq,Option.some.injEq,Addr.mk.injEq,and_true,true_and] at e;obtain ⟨rfl,rfl⟩:=e;rw [Nat.zero_mul] at O;rw [Array.eq_empty_of_size_eq_zero O] at hg;exact hg
 rcases A with _ | a
 ·have hm:m=0:=by
   rcases EC m with h | h
   ·exact h
   ·obtain ⟨b,off,e,_⟩:=o h;cases e
  subst hm;have h:=run_append_room_src (P:=Tryz.prog) w t t ty e i ht hi g 0 0 0 (.slice none 0 c) 0 [] (by rw [G];exact Src.ofNil w ht c) (by omega) (by simp) (by simp);rw [Dq] at h;rw [h] at M;injection M with _ e;subst e;exact za.refl _
 ·have E:∀j u,news[j]?=some u->w.cell? (a.add j)=some u:=fun j u hj=>by
   rcases EC m with h | h
   ·subst h;have hn:news=[]:=Ei (by simpa using hl);subst hn;simp at hj
   ·obtain ⟨b,off,he,_,a1⟩:=o h;simp only [Option.some.injEq] at he;subst he;rw [Addr.add_lit];exact a1 j u hj
  by_cases hm:m=0
  ·subst hm;have hn:news=[]:=Ei (by simpa using hl);subst hn;have h:=run_append_room (P:=Tryz.prog) w t ty e i ht hi g 0 0 #[] D a 0 c [] (by simp) E h1 (by omega) (by simp);rw [h] at M;injection M with _ e;subst e;refine ⟨rfl,rfl,rfl,by simp [World.setRow],fun k hk=>?_⟩;by_cases U:k=g
   ·subst U;rw [setRow_heap w k #[] _ _ _ D,D];simp
   ·exact setRow_other w g k _ U
  ·have h:=run_append_grow (P:=Tryz.prog) w t ty e i z ht hi hz ⟨g,0,none⟩ 0 0 [] (by simp) (by simp) a m c news (by rw [G];exact hl) E (by omega) (by simp only [maxLen] at V;omega) (growslice_fits (by omega) (by rw [Nat.zero_add,a0];exact J));rw [h] at M;injection M with _ e;subst e;exact (za.refl w).drew.alloc _
theorem Dw {ok:Nat->Prop} {o:Oper} {K:Act->World->Prop} (W:World) (s x:Operand) {t e:TypeId} {bytes:Nat} (I:ElemI t e z sz bytes)
  (M:o.op=.call { callee:=.builtin .append,args:=#[s,x],argTypes:=#[t,t] }) (base m g:Nat) (l2:List Value) (v u:Value) (U:a.eval s=v) (hv:v=.slice (some ⟨g,0,none⟩) 0 0) (hx:a.eval x=u)
  (E:W.ownsRow base e sz v 0 []) (V:Ae W ok sz u m l2) (h1:∀u∈l2,u.oneCell'=true) (D:base<=W.heap.size) (G:m<=maxLen) (L:m*bytes<=140737488355328)
  (h:∀v' w',w'.ownsRow base e sz v' m l2->za W w'->(v'.ownBlock=some g\/v'.ownBlock=some W.heap.size)->K (a.put o.dst v') w'):Oper.wp Tryz.prog o a W K Q:=by
 subst hv;obtain ⟨v',w',O,h2,h3,J⟩:=run_append_empty (ok:=ok) W base t o.type e z sz bytes I g E u m l2 V h1 G L D;unfold Oper.wp execOp;simp only [M,resolve,invoke,builtin,Sem.run_bind,Sem.run_pure,Result.andThen_ok,List.map_toArray,List.map_cons,List.map_nil,U,hx,O];exact h v' w' h2 h3 J
theorem prv_ones {W:World} {ok:Nat->Prop} {ks:List PT} {cs:List Value} (I:cs.length=ks.length*3) (he:∀(i:Nat) (D:i<ks.length),zM W ok (.agg #[cs.getD (i*3) undef,cs.getD (i*3+1) undef,cs.getD (i*3+2) undef]) ks[i]):∀u∈cs,u.oneCell'=true:=by
 intro u G;obtain ⟨j,E,rfl⟩:=Ex G;obtain ⟨As,c1,Ak,c2,e,-⟩:=(he (j / 3) (by omega)).form;injection e with e;have e0:=congrArg (fun a:Array Value=>a[0]?) e;have e1:=congrArg (fun a:Array Value=>a[1]?) e;have e2:=congrArg (fun a:Array Value=>a[2]?) e;simp at e0 e1 e2;have o:∀i,i=j->cs[j]=cs.getD i undef:=fun i D=>by subst D;rw [DP,DO E];rfl
 have h3:j=j / 3*3\/j=j / 3*3+1\/j=j / 3*3+2:=by omega
 rcases h3 with h | h | h
 ·rw [o _ h.symm,DP,e0];rfl
 ·rw [o _ h.symm,DP,e1];rfl
 ·rw [o _ h.symm,DP,e2];rfl
theorem intsOne29 {l:List Int}:∀u∈l.map (Value.int .i64),u.oneCell'=true:=by
 intro u o;obtain ⟨_,_,rfl⟩:=EP.1 o;rfl
def pbk:Value->Option Nat
 | .pointer (some a)=>some a.block
 | _=>none
def obk (j:Nat):Value->Option Nat
 | .agg cs=>if j=10 then (cs.getD 2 undef).ownBlock else none
 | v=>v.ownBlock
def VQ (B bp:Nat) (t:Int) (vs vk:Value) (s:List Int) (n:Nat) (cs:List Value) (j:Nat) (x:Value) (W:World):Prop:=match j with
 | 0=>x=.pointer (some ⟨bp,0,none⟩) | 1=>x=.int .i64 t | 2=>∃g,x=.slice (some ⟨g,0,none⟩) 0 0/\W.ownsRow B 3 1 x 0 [] | 3=>x=.pointer (some ⟨bp,1,none⟩) | 4=>x=vs | 5=>zB W B x s
 | 6=>∃g,x=.slice (some ⟨g,0,none⟩) 0 0/\W.ownsRow B 41 3 x 0 [] | 7=>x=.pointer (some ⟨bp,2,none⟩) | 8=>x=vk | 9=>W.ownsRow B 41 3 x n cs
 | 10=>∃y z,x=.agg #[.int .i64 t,y,z]/\zB W B y s/\W.ownsRow B 41 3 z n cs
 | 11=>∃g,x=.pointer (some ⟨g,0,none⟩)/\B<=g/\zd W g 41 #[.int .i64 0,.slice none 0 0,.slice none 0 0]
 | _=>True
theorem VQ.st {bp:Nat} {t:Int} {vs vk:Value} {s:List Int} {cs:List Value}:StV (VQ B bp t vs vk s n cs):=fun j x W W' o h=>
 match j,h with
 | 0,h | 1,h | 3,h | 4,h | 7,h | 8,h=>h
 | 2,⟨g,e,h⟩ | 6,⟨g,e,h⟩=>⟨g,e,Ag h o⟩
 | 5,h | 9,h=>Ag h o
 | 10,⟨y,z,e,h1,h2⟩=>⟨y,z,e,Ag h1 o,Ag h2 o⟩
 | 11,⟨g,e,h1,h2⟩=>⟨g,e,h1,h2.ext o⟩
 | _+12,_=>trivial
def DQ (j:Nat):List Nat:=match j with | 1=>[0] | 4=>[3] | 5=>[2,4] | 8=>[7] | 9=>[6,8] | 10=>[1,5,9] | _=>[]
def XQ (e:Nat->Bool) (v:Nat->Value) (W:World):Prop:=e 11=true->∀j∈[6,9,10],e j=true->∀g,pbk (v 11)=some g->obk j (v j)≠some g
section
variable {e:Nat->Bool} {v:Nat->Value} {W W':World} {j:Nat} {x:Value}
theorem XQ.other (h:XQ e v W) (E:j∉[6,9,10,11]):XQ (AM e j true) (AM v j x) W':=by
 intro h1 k G o g D;have n1:(11:Nat)≠j:=fun q=>E (by simp [<-q])
 have n2:k≠j:=fun q=>E (by rw [<-q];simp at G⊢;omega)
 rw [AX e true n1] at h1;rw [AX v x n1] at D;rw [AX e true n2] at o;rw [AX v x n2];exact h h1 k G o g D
theorem XQ.kid (h:XQ e v W) (G:j∈[6,9,10]) (J:e 11=true->∀g,pbk (v 11)=some g->obk j x≠some g):XQ (AM e j true) (AM v j x) W':=by
 intro h1 k I D g E;have n1:(11:Nat)≠j:=fun q=>by subst q;simp at G
 rw [AX e true n1] at h1;rw [AX v x n1] at E;by_cases o:k=j
 ·subst o;rw [Cg];exact J h1 g E
 ·rw [AX e true o] at D;rw [AX v x o];exact h h1 k I D g E
theorem XQ.box (G:∀k∈[6,9,10],e k=true->∀g,pbk x=some g->obk k (v k)≠some g):XQ (AM e 11 true) (AM v 11 x) W':=by
 intro h1 k E o g D;have n1:k≠11:=fun q=>by subst q;simp at E
 rw [Cg] at D;rw [AX e true n1] at o;rw [AX v x n1];exact G k E o g D
end
structure OQ (w1 W:World) (ok:Nat->Prop) (g:Nat) (t:Int) (s:List Int) (ks:List PT) (cs:List Value) (vS vK:Value):Prop where
 ext:za w1 W
 lo:w1.heap.size<=g
 box:zd W g 41 #[.int .i64 t,vS,vK]
 side:zB W w1.heap.size vS s
 own:W.ownsRow w1.heap.size 41 3 vK ks.length cs
 each:∀(i:Nat) (hi:i<ks.length),zM W ok (.agg #[cs.getD (i*3) undef,cs.getD (i*3+1) undef,cs.getD (i*3+2) undef]) ks[i]
 ne:vK.ownBlock≠some g
 hok:∀b,ok b->b<w1.heap.size
def OZ (w1 W:World) (ok:Nat->Prop) (g c:Nat) (p:PT):Prop:=∃As cs Ak ck p',zd W g 41 #[.int .i64 p'.task,.slice As p'.side.length cs,.slice Ak p'.kids.length ck]/\
 zM W (fun b=>ok b\/w1.heap.size<=b) (.agg #[.int .i64 p'.task,.slice As p'.side.length cs,.slice Ak p'.kids.length ck]) p'/\za w1 W/\OddP c p p'
section
variable {w1 W W':World} {ok:Nat->Prop} {g c:Nat} {t t':Int} {s s':List Int} {ks ks':List PT} {cs cs':List Value} {vS vK v vS' vK':Value} {p:PT}
theorem OZ.of {a:Value} {p':PT} (D:zd W g 41 #[a,b,z]) (hp:zM W (fun b=>ok b\/w1.heap.size<=b) (.agg #[a,b,z]) p') (o:za w1 W) (h:OddP c p p'):OZ w1 W ok g c p:=by
 obtain ⟨As,cs,Ak,ck,e,-⟩:=hp.form;injection e with e;have e0:=congrArg (fun a:Array Value=>a[0]?) e;have e1:=congrArg (fun a:Array Value=>a[1]?) e;have e2:=congrArg (fun a:Array Value=>a[2]?) e;simp at e0 e1 e2;subst e0 e1 e2;exact ⟨As,cs,Ak,ck,p',D,hp,o,h⟩
theorem OZ.node (D:zd W g 41 #[.int .i64 t',vS',vK']) (G:zk W (fun b=>ok b\/w1.heap.size<=b) vS' s') (E:Ae W (fun b=>ok b\/w1.heap.size<=b) 3 vK' ks'.length cs')
  (he:∀(i:Nat) (I:i<ks'.length),zM W (fun b=>ok b\/w1.heap.size<=b) (.agg #[cs'.getD (i*3) undef,cs'.getD (i*3+1) undef,cs'.getD (i*3+2) undef]) ks'[i]) (o:za w1 W) (h:OddP c p (.node t' s' ks')):OZ w1 W ok g c p:=.of D (.mk G E he) o h
theorem CR (h:zB W B v s):zk W (fun b=>ok b\/B<=b) v s:=zk.weaken (Ae.of_own h) fun b o=>.inr o
theorem ownK_ok (h:W.ownsRow B 41 3 v n cs):Ae W (fun b=>ok b\/B<=b) 3 v n cs:=(Ae.of_own h).weaken fun b o=>.inr o
theorem OQ.begin {a:Value} (O:za w1 W) (o:w1.heap.size<=g) (I:zd W g 41 #[a,b,z]) (L:zB W w1.heap.size vS s) (U:W.ownsRow w1.heap.size 41 3 vK ks.length cs)
  (he:∀(i:Nat) (M:i<ks.length),zM W ok (.agg #[cs.getD (i*3) undef,cs.getD (i*3+1) undef,cs.getD (i*3+2) undef]) ks[i]) (E:vK.ownBlock≠some g) (G:∀b,ok b->b<w1.heap.size):
  OQ w1 (((W.setCell ⟨g,0,none⟩ (.int .i64 t)).setCell ⟨g,1,none⟩ vS).setCell ⟨g,2,none⟩ vK) ok g t s ks cs vS vK:=by
 have K:∀k,k≠g->(((W.setCell ⟨g,0,none⟩ (.int .i64 t)).setCell ⟨g,1,none⟩ vS).setCell ⟨g,2,none⟩ vK).heap[k]?=W.heap[k]?:=fun k J=>((AO k J).trans (AO k J)).trans (AO k J)
 exact ⟨((O.setCell (p:=⟨g,0,none⟩) o _).setCell (p:=⟨g,1,none⟩) o _).setCell (p:=⟨g,2,none⟩) o _,o,((I.set (k:=0) _).set (k:=1) _).set (k:=2) _,
  zv L fun b D=>K b (fun e=>by subst e;exact zl L I (by decide) D),zv U fun b D=>K b (fun e=>by subst e;exact E D),
  fun i M=>(he i M).keepW (fun b I _=>K b (fun e=>by have:=G b I;omega)) fun _ h=>h,E,G⟩
theorem OQ.same (h:OQ w1 W ok g t s ks cs vS vK) (E:(PT.node t s ks).LenN c):OZ w1 W ok g c (.node t s ks):=
 .node h.box (CR h.side) (ownK_ok h.own) (fun i D=>(h.each i D).wk fun b o _=>.inl o) h.ext (odd_top E (by omega))
theorem OQ.box' (h:OQ w1 W ok g t s ks cs vS vK) (E:∀b,b≠g->W'.heap[b]?=W.heap[b]?) (G:za w1 W') (o:zd W' g 41 #[.int .i64 t',vS,vK]):OQ w1 W' ok g t' s ks cs vS vK:=
 ⟨G,h.lo,o,zv h.side fun b D=>E b (fun e=>by subst e;exact zl h.side h.box (by decide) D),zv h.own fun b D=>E b (fun e=>by subst e;exact h.ne D),
 fun i I=>(h.each i I).keepW (fun b o J=>E b (fun e=>by have:=h.hok b o;have:=h.lo;omega)) fun _ h=>h,h.ne,h.hok⟩
theorem OQ.setB {x:Value} (h:OQ w1 W ok g t s ks cs vS vK):za w1 (W.setCell ⟨g,k,none⟩ x):=h.ext.setCell (p:=⟨g,k,none⟩) h.lo x
theorem OQ.finT (h:OQ w1 W ok g t s ks cs vS vK) (E:(PT.node t s ks).LenN c) (t':Int):OZ w1 (W.setCell ⟨g,0,none⟩ (.int .i64 t')) ok g c (.node t s ks):=by
 have h2:=h.box' (AO (x:=.int .i64 t')) h.setB (h.box.set (k:=0) _);exact .node h2.box (CR h2.side) (ownK_ok h2.own) (fun i D=>(h2.each i D).wk fun b o _=>.inl o) h2.ext (odd_top E (by omega))
theorem OQ.grown {r:Option Nat} (h:OQ w1 W ok g t s ks cs vS vK) (o:W.grownBy W' r) (E:∀b,r=some b->w1.heap.size<=b/\b≠g):
  za w1 W'/\zd W' g 41 #[.int .i64 t,vS,vK]/\∀(i:Nat) (G:i<ks.length),zM W' ok (.agg #[cs.getD (i*3) undef,cs.getD (i*3+1) undef,cs.getD (i*3+2) undef]) ks[i]:=
 ⟨h.ext.grown o h.ext.size fun k J=>(E k J).1,(o.block g (zc h.box) (fun e=>(E g e.symm).2 rfl)).trans h.box,fun i G=>(h.each i G).keepW (fun b I D=>o.block b D (fun e=>by have:=(E b e.symm).1;have:=h.hok b I;omega)) fun _ h=>h⟩
theorem OQ.ex (h:OQ w1 W ok g t s ks cs vS vK) (o:za W W'):OQ w1 W' ok g t s ks cs vS vK:=
 ⟨h.ext.trans o,h.lo,h.box.ext o,Ag h.side o,Ag h.own o,fun i D=>(h.each i D).ext o,h.ne,h.hok⟩
theorem OQ.side_ne (h:OQ w1 W ok g t s ks cs vS vK):∀b,vS.ownBlock=some b->w1.heap.size<=b/\b≠g:=fun b o=>⟨(World.ownsRow.lt h.side b o).1,fun e=>by subst e;exact zl h.side h.box (by decide) o⟩
theorem OQ.kids_ne (h:OQ w1 W ok g t s ks cs vS vK):∀b,vK.ownBlock=some b->w1.heap.size<=b/\b≠g:=fun b o=>⟨(World.ownsRow.lt h.own b o).1,fun e=>by subst e;exact h.ne o⟩
theorem own_kind {e:TypeId} (h:W.ownsRow B e sz v n xs):∀b,v.ownBlock=some b->∃cs,zd W b e cs:=fun b o=>by
 rcases h.2 with ⟨rfl,-⟩ | ⟨g',cap,cur,rfl,-,hh,-⟩
 ·cases o
 ·have e2:g'=b:=by simpa [Value.ownBlock] using o
  subst e2;exact ⟨cur,hh⟩
theorem OQ.finS {r:Option Nat} (h:OQ w1 W ok g t s ks cs vS vK) (U:(PT.node t s ks).LenN c) (J:∀b,r=some b->vS.ownBlock=some b) (I:W.grownBy W' r) (K:zB W' w1.heap.size v s') (E:s'.length<=s.length+1):OZ w1 (W'.setCell ⟨g,1,none⟩ v) ok g c (.node t s ks):=by
 obtain ⟨L,G,he⟩:=h.grown I fun b o=>h.side_ne b (J b o)
 have M:W'.ownsRow w1.heap.size 41 3 vK ks.length cs:=own_kept31 h.own I fun b o=>by obtain ⟨cs,o⟩:=own_kind h.side b (J b o);exact ⟨_,_,o,by decide⟩
 have D:=AO (W:=W') (g:=g) (k:=1) (x:=v);refine .node (G.set (k:=1) v) (CR (zv K fun b o=>D b (fun e=>by subst e;exact zl K G (by decide) o))) (ownK_ok (zv M fun b o=>D b (fun e=>by subst e;exact h.ne o))) (fun i O=>(he i O).keepW (fun b o V=>D b (fun e=>by have:=h.hok b o;have:=h.lo;omega)) fun _ h=>.inl h) (L.setCell (p:=⟨g,1,none⟩) h.lo v) (odd_top U E)
theorem OQ.finSe {z:Int} (h:OQ w1 W ok g t s ks cs (.slice (some ⟨gS,0,none⟩) n cap) vK) (M:(PT.node t s ks).LenN c) (U:n=s.length) (V:i<s.length):OZ w1 (W.setCell ⟨gS,i,none⟩ (.int .i64 z)) ok g c (.node t s ks):=by
 subst U;obtain ⟨o,D⟩:=h.side_ne gS rfl;obtain ⟨cb,E⟩:=own_kind h.side gS rfl;have I:=AO (W:=W) (g:=gS) (k:=i) (x:=.int .i64 z);have J:=(World.ownsRow.stored h.side i (.int .i64 z)).1;have e:(s.map (Value.int .i64)).set i (.int .i64 z)=(s.set i z).map (Value.int .i64):=by rw [List.map_set]
 have K:zB (W.setCell ⟨gS,i,none⟩ (.int .i64 z)) w1.heap.size (.slice (some ⟨gS,0,none⟩) s.length cap) (s.set i z):=by
  unfold zB;rw [List.length_set,<-e];exact J
 refine .node ((I g (fun e=>D e.symm)).trans h.box) (CR K) (ownK_ok (zv h.own fun b G=>I b (fun e=>by subst e;exact zl h.own E (by decide) G))) (fun j L=>(h.each j L).keepW (fun b E O=>I b (fun e=>by have:=h.hok b E;omega)) fun _ h=>.inl h) (h.ext.setCell (p:=⟨gS,i,none⟩) o _) (odd_top M (by simp))
theorem lenN_kid (o:(PT.node t s ks).LenN c) (D:i<ks.length):ks[i].LenN (c+1):=by
 unfold PT.LenN at o;exact lenN_mono (by omega) _ (lenNL_mem o.2.2 _ (DS D))
theorem sizeL_appO:∀(a b:List PT),PT.sizeL (a++b)=PT.sizeL a+PT.sizeL b
 | [],b=>by simp [PT.sizeL]
 | k :: a,b=>by rw [List.cons_append];simp only [PT.sizeL,sizeL_appO a b];omega
theorem OQ.finK (h:OQ w1 W ok g t s ks cs vS vK) (V:(PT.node t s ks).LenN c) (U:W.grownBy W' vK.ownBlock) (hv:W'.ownsRow w1.heap.size 41 3 v (ks.length+1) (cs++[.int .i64 t',.slice none 0 0,.slice none 0 0])) (L:v.ownBlock=vK.ownBlock\/v.ownBlock=some W.heap.size):OZ w1 (W'.setCell ⟨g,2,none⟩ v) ok g c (.node t s ks):=by
 obtain ⟨hE,M,he⟩:=h.grown U h.kids_ne;have D:cs.length=ks.length*3:=h.own.1
 have J:v.ownBlock≠some g:=by
  rcases L with e | e
  ·rw [e];exact h.ne
  ·rw [e];intro q;injection q with q;have:=zc h.box;omega
 have O:zB W' w1.heap.size vS s:=own_kept31 h.side U fun b o=>by obtain ⟨cs,o⟩:=own_kind h.own b o;exact ⟨_,_,o,by decide⟩
 have K:=AO (W:=W') (g:=g) (k:=2) (x:=v)
 refine .node (ks':=ks++[.node t' [] []]) (M.set (k:=2) v) (CR (zv O fun b o=>K b (fun e=>by subst e;exact zl O M (by decide) o))) (ownK_ok (zv (by rw [DZ];exact hv) fun b o=>K b (fun e=>by subst e;exact J o))) (fun i E=>?_) (hE.setCell (p:=⟨g,2,none⟩) h.lo v)
  (odd_kids V (by omega) (fun k hk=>?_) (by simp) (by rw [sizeL_appO];simp [PT.sizeL,PT.size]))
 ·by_cases G:i<ks.length
  ·rw [BE (by omega),BE (by omega),BE (by omega),List.getElem_append_left G];exact (he i G).keepW (fun b o a1=>K b (fun e=>by have:=h.hok b o;have:=h.lo;omega)) fun _ h=>.inl h
  ·have I:i=ks.length:=by rw [DZ,Er] at E;omega
   subst I;have e0:(cs++[Value.int .i64 t',.slice none 0 0,.slice none 0 0]).getD (ks.length*3) undef=Value.int .i64 t':=by rw [DP,DX (by omega),D,Nat.sub_self];rfl
   have e1:(cs++[Value.int .i64 t',.slice none 0 0,.slice none 0 0]).getD (ks.length*3+1) undef=.slice none 0 0:=by rw [DP,DX (by omega),D,Nat.add_sub_cancel_left];rfl
   have e2:(cs++[Value.int .i64 t',.slice none 0 0,.slice none 0 0]).getD (ks.length*3+2) undef=.slice none 0 0:=by rw [DP,DX (by omega),D,Nat.add_sub_cancel_left];rfl
   rw [e0,e1,e2,List.getElem_append_right (DR _)];simp only [Nat.sub_self,List.getElem_cons_zero];exact .mk (cs:=[]) (zk.nil _ _) ⟨none,0,rfl,DR _,AE.nil _ _ _ _⟩ (fun i E=>absurd E (by simp))
 ·rcases EH.1 hk with hk | hk
  ·obtain ⟨i,E,rfl⟩:=Ex hk;exact lenN_kid V E
  ·rw [Ey.1 hk];exact leaf_lenN _ _
theorem OQ.finD (h:OQ w1 W ok g t s ks cs vS (.slice (some ⟨gK,0,none⟩) n cap)) (L:(PT.node t s ks).LenN c) (hn:n=ks.length) (hp:0<ks.length):OZ w1 (W.setCell ⟨g,2,none⟩ (.slice (some ⟨gK,3,none⟩) (n - 1) (cap - 1))) ok g c (.node t s ks):=by
 subst hn;have J:=AO (W:=W) (g:=g) (k:=2) (x:=.slice (some ⟨gK,3,none⟩) (ks.length - 1) (cap - 1));have G:gK≠g:=fun e=>h.ne (by rw [e];rfl)
 have U:cs.length=ks.length*3:=h.own.1;have K:=Bx h.own;obtain ⟨A,cc,e,-,-,hr⟩:=Ae.of_own h.own;injection e with e1 e2 e3;subst e1 e3;obtain ⟨b,off,e,D,O⟩:=hr hp;injection e with e;injection e with e1 e2 e3;subst e1 e2;have E:∀j,(cs.drop 3).getD j undef=cs.getD (j+3) undef:=fun j=>by rw [DP,DP,List.getElem?_drop,Nat.add_comm]
 refine .node (ks':=ks.drop 1) (cs':=cs.drop 3) (h.box.set (k:=2) _) (CR (zv h.side fun b o=>J b (h.side_ne b o).2)) ⟨_,_,by rw [ER],by rw [ER];omega,by rw [ER,ER];omega,fun _=>⟨gK,3,rfl,.inr D,fun j u M=>?_⟩⟩ (fun i I=>?_) h.setB
  (odd_kids L (by omega) (fun k V=>?_) (by rw [ER];omega) (by have:=sizeL_drop1 ks;omega))
 ·rw [List.getElem?_drop] at M;have:=O (3+j) u M;rw [Nat.zero_add] at this;rw [Eg (a:=⟨gK,3+j,none⟩) (J gK G)];exact this
 ·rw [ER] at I;rw [E,E,E,List.getElem_drop];have h2:=h.each (1+i) (by omega);rw [show (1+i)*3=i*3+3 from by omega,show i*3+3+1=i*3+1+3 from by omega,show i*3+3+2=i*3+2+3 from by omega] at h2;exact h2.keepW (fun b o a0=>J b (fun e=>by have:=h.hok b o;have:=h.lo;omega)) fun _ h=>.inl h
 ·obtain ⟨i,I,rfl⟩:=Ex (List.mem_of_mem_drop V);exact lenN_kid L I
theorem OQ.finN (h:OQ w1 W ok g t s ks cs vS vK) (G:(PT.node t s ks).LenN c):OZ w1 (W.setCell ⟨g,2,none⟩ (.slice A 0 cap)) ok g c (.node t s ks):=by
 have I:=AO (W:=W) (g:=g) (k:=2) (x:=.slice A 0 cap);exact .node (ks':=[]) (cs':=[]) (h.box.set (k:=2) _) (CR (zv h.side fun b o=>I b (h.side_ne b o).2)) ⟨_,_,rfl,Ef _,AE.nil _ _ _ _⟩ (fun i D=>absurd D (by simp)) h.setB (odd_kids G (by omega) (fun k E=>absurd E (EN)) (by simp) (by simp [PT.sizeL]))
theorem OQ.finL (h:OQ w1 W ok g t s ks cs vS vK) (t':Int):OZ w1 (((W.setCell ⟨g,0,none⟩ (.int .i64 t')).setCell ⟨g,1,none⟩ (.slice none 0 0)).setCell ⟨g,2,none⟩ (.slice none 0 0)) ok g c (.node t s ks):=by
 refine .node (s':=[]) (ks':=[]) (cs':=[]) (((h.box.set (k:=0) _).set (k:=1) _).set (k:=2) _) (zk.nil _ _) ⟨none,0,rfl,DR _,AE.nil _ _ _ _⟩ (fun i o=>absurd o (by simp)) ((h.setB.setCell (p:=⟨g,1,none⟩) h.lo _).setCell (p:=⟨g,2,none⟩) h.lo _) ⟨leaf_lenN _ _,by unfold PT.size;simp [PT.sizeL]⟩
structure KQ (w1 W:World) (ok:Nat->Prop) (g:Nat) (t:Int) (s:List Int) (ks:List PT) (cs:List Value) (vS:Value) (gK cap:Nat):Prop where
 ext:za w1 W
 lo:w1.heap.size<=g
 box:zd W g 41 #[.int .i64 t,vS,.slice (some ⟨gK,0,none⟩) ks.length cap]
 side:zB W w1.heap.size vS s
 own:W.ownsRow w1.heap.size 41 3 (.slice (some ⟨gK,0,none⟩) ks.length cap) ks.length cs
 each:∀(i:Nat) (hi:i<ks.length),zM W (fun b=>(ok b\/w1.heap.size<=b)/\b≠gK) (.agg #[cs.getD (i*3) undef,cs.getD (i*3+1) undef,cs.getD (i*3+2) undef]) ks[i]
 ne:gK≠g
theorem OQ.kq (h:OQ w1 W ok g t s ks cs vS (.slice (some ⟨gK,0,none⟩) n cap)) (E:n=ks.length):KQ w1 W ok g t s ks cs vS gK cap:=by
 subst E;exact ⟨h.ext,h.lo,h.box,h.side,h.own,fun i D=>(h.each i D).wk fun b o _=>⟨.inl o,fun e=>by have:=h.hok b o;have:=(h.kids_ne gK rfl).1;omega⟩,fun e=>h.ne (by rw [e];rfl)⟩
theorem KQ.ex (h:KQ w1 W ok g t s ks cs vS gK cap) (o:za W W'):KQ w1 W' ok g t s ks cs vS gK cap:=
 ⟨h.ext.trans o,h.lo,h.box.ext o,Ag h.side o,Ag h.own o,fun i D=>(h.each i D).ext o,h.ne⟩
def set3 (cs:List Value) (i:Nat) (a b z:Value):List Value:=((cs.set (i*3) a).set (i*3+1) b).set (i*3+2) z
theorem getD_set {l:List Value} {j:Nat} {x:Value}:(l.set i x).getD j undef=if i=j/\i<l.length then x else l.getD j undef:=by
 rw [DP,DP,List.getElem?_set];by_cases h:i=j
 ·subst h;by_cases h2:i<l.length
  ·simp [h2]
  ·simp [h2,Ek (Nat.le_of_not_lt h2)]
 ·simp [h]
theorem KQ.set {gK cap i:Nat} {a b z:Value} {q:PT} (h:KQ w1 W ok g t s ks cs vS gK cap) (O:i<ks.length) (hp:zM W (fun b=>(ok b\/w1.heap.size<=b)/\b≠gK) (.agg #[a,b,z]) q):
  KQ w1 (((W.setCell ⟨gK,i*3,none⟩ a).setCell ⟨gK,i*3+1,none⟩ b).setCell ⟨gK,i*3+2,none⟩ z) ok g t s (ks.set i q) (set3 cs i a b z) vS gK cap:=by
 have G:∀k,k≠gK->(((W.setCell ⟨gK,i*3,none⟩ a).setCell ⟨gK,i*3+1,none⟩ b).setCell ⟨gK,i*3+2,none⟩ z).heap[k]?=W.heap[k]?:=fun k o=>((AO k o).trans (AO k o)).trans (AO k o)
 have K:cs.length=ks.length*3:=h.own.1;have D:=(World.ownsRow.lt h.own gK rfl).1;obtain ⟨cb,J⟩:=own_kind h.own gK rfl;refine ⟨((h.ext.setCell (p:=⟨gK,i*3,none⟩) D a).setCell (p:=⟨gK,i*3+1,none⟩) D b).setCell (p:=⟨gK,i*3+2,none⟩) D z,h.lo,?_,zv h.side fun k o=>G k (fun e=>by subst e;exact zl h.side J (by decide) o),?_,fun j I=>?_,h.ne⟩
 ·rw [List.length_set];exact (G g (fun e=>h.ne e.symm)).trans h.box
 ·rw [List.length_set];exact (World.ownsRow.stored (World.ownsRow.stored (World.ownsRow.stored h.own (i*3) a).1 (i*3+1) b).1 (i*3+2) z).1
 ·rw [List.length_set] at I;have M:zM (((W.setCell ⟨gK,i*3,none⟩ a).setCell ⟨gK,i*3+1,none⟩ b).setCell ⟨gK,i*3+2,none⟩ z) (fun b=>(ok b\/w1.heap.size<=b)/\b≠gK) (.agg #[a,b,z]) q:=hp.keepW (fun k o _=>G k o.2) fun _ h=>h
  have L:=(h.each j I).keepW (fun k o _=>G k o.2) fun _ h=>h
  unfold set3;simp only [getD_set,List.length_set];by_cases E:i=j
  ·subst E;rw [List.getElem_set_self];rw [if_neg (by omega),if_neg (by omega),if_pos ⟨rfl,by omega⟩,if_neg (by omega),if_pos ⟨rfl,by omega⟩,if_pos ⟨rfl,by omega⟩];exact M
  ·rw [List.getElem_set_ne E];rw [if_neg (by omega),if_neg (by omega),if_neg (by omega),if_neg (by omega),if_neg (by omega),if_neg (by omega),if_neg (by omega),if_neg (by omega),if_neg (by omega)];exact L
theorem KQ.fin (h:KQ w1 W ok g t s ks cs vS gK cap) (hp:OddP c p (.node t s ks)):OZ w1 W ok g c p:=
 .node h.box (CR h.side) (ownK_ok h.own) (fun i D=>(h.each i D).wk fun b o _=>o.1) h.ext hp
theorem odd_swap (D:(PT.node t s ks).LenN c) (h1:1<ks.length):OddP c (.node t s ks) (.node t s ((ks.set 0 ks[1]).set 1 ks[0])):=by
 have e1:=sizeL_set ks 0 ks[1] (by omega);have e2:=sizeL_set (ks.set 0 ks[1]) 1 ks[0] (by rw [List.length_set];omega);rw [List.getElem_set_ne (by omega)] at e2;refine odd_kids D (by omega) (fun k o=>?_) (by simp) (by omega);rcases List.mem_or_eq_of_mem_set o with o | rfl
 ·rcases List.mem_or_eq_of_mem_set o with o | rfl
  ·obtain ⟨i,E,rfl⟩:=Ex o;exact lenN_kid D E
  ·exact lenN_kid D h1
 ·exact lenN_kid D (by omega)
theorem own_take {e:TypeId} (h:W.ownsRow B e sz (.slice (some ⟨gS,0,none⟩) n cap) n xs) (K:i<=n):W.ownsRow B e sz (.slice (some ⟨gS,0,none⟩) i cap) i (xs.take (i*sz)):=by
 have hm:i*sz<=n*sz:=Nat.mul_le_mul_right _ K;rcases h.2 with ⟨D,_⟩ | ⟨g',cap',cur,D,I,J,L,E,G,o⟩
 ·cases D
 ·injection D with e1 e2 e3;injection e1 with e1;injection e1 with e1;subst e1 e3;refine ⟨by rw [EJ,h.1];omega,.inr ⟨gS,cap,cur,rfl,I,J,by omega,E,G,?_⟩⟩;rw [<-o,List.take_take];congr 1;omega
theorem ints_drop (h:zB W B (.slice (some ⟨gS,0,none⟩) n cap) s) (J:n=s.length) (L:i<=n) {cc:Nat} (I:k=n - i) (o:k<=cc) (hA:0<k->A=some ⟨gS,i,none⟩):zk W (fun b=>B<=b) (.slice A k cc) (s.drop i):=by
 subst J I;obtain ⟨A',c',e,-,-,K⟩:=Ae.of_own h;injection e with e1 e2 e3;subst e1;refine ⟨A,cc,by rw [ER],by rw [ER];exact o,by rw [EB,ER];omega,fun hp=>?_⟩;rw [ER] at hp;obtain ⟨b,off,e,E,G⟩:=K (by omega);injection e with e;injection e with e1 e2 _;subst e1 e2;refine ⟨gS,i,hA hp,E,fun j u D=>?_⟩;rw [List.map_drop,List.getElem?_drop] at D;have:=G _ u D;rw [Nat.zero_add] at this;exact this
end
theorem rem29 {k:Int} (o:0<n) (h0:0<=k) (h1:k<60):∃i:Nat,i<n/\i<60/\k.tmod (n:Int)=(i:Int)/\IntKind.i64.wrap (k.tmod (n:Int))=(i:Int):=by
 obtain ⟨y,rfl⟩:∃y:Nat,k=(y:Int):=⟨k.toNat,by omega⟩;have hm:((y:Nat):Int).tmod (n:Int)=((y % n:Nat):Int):=rfl;have h2:=Nat.mod_lt y o;have h3:=Nat.mod_le y n;exact ⟨y % n,h2,by omega,hm,by rw [hm,Em];omega⟩
theorem odd_end {W:World} {x y:Value} {R:Ending->World->Prop} (D:a.tmps[4]?=some (.pointer (some ⟨b4,0,none⟩))) (E:a.defers=[]) (o:zd W b4 41 #[x,y,z]) (h:R (.returned (.agg #[x,y,z])) W):bodyPost Tryz.prog Tryz.f21 R Exit.ret a W:=by
 have c0:=o.cell (k:=0) rfl;have c1:=o.cell (k:=1) rfl;have c2:=o.cell (k:=2) rfl;have e:a.tmps.getD 4 undef=.pointer (some ⟨b4,0,none⟩):=by rw [Array.getD_eq_getD_getElem?,D];rfl
 exact EL (v:=.agg #[x,y,z]) (by simp [results,Tryz.results21,go_sem,D,e,c0,c1,c2]) E h
def OddR (w:World) (ok:Nat->Prop) (c:Nat) (p:PT) (e:Ending) (w':World):Prop:=∃v' p',e=.returned v'/\za w w'/\zM w' (fun b=>ok b\/w.heap.size<=b) v' p'/\OddP c p p'
theorem odd_fin {w1 wz WZ:World} {ok:Nat->Prop} {c:Nat} {p:PT} {v:Value} {p':PT} (o:za w w1) (M:w.heap.size<=b4/\b4<w1.heap.size) (G:za w1 wz) (K:zM wz (fun b=>(ok b/\b<w.heap.size)\/w1.heap.size<=b) v p') (D:Below b4 wz WZ) (L:∀k,k<wz.heap.size->k≠b4->WZ.heap[k]?=wz.heap[k]?) (J:OddP c p p'):
  OddR w ok c p (.returned v) WZ:=
 ⟨v,p',rfl,below_le (o.trans G) D M.1,K.keepW (fun b E I=>L b I (by rcases E with ⟨_,h⟩ | h <;> omega)) (fun b E=>by rcases E with ⟨h,_⟩ | h;exact .inl h;exact .inr (by omega)),J⟩
def regOf (n:Nat):Code->Option Code
 | .region id ops d=>if id=n then some (.region id ops d) else none
 | .seq a b=>match regOf n a with
  | some c=>some c
  | none=>regOf n b
 | .cond _ a b=>match regOf n a with
  | some c=>some c
  | none=>regOf n b
 | .block _ c=>regOf n c
 | .loop c=>regOf n c
 | _=>none
theorem Dr {c c':Code} (h:c'=c) (o:c'.wp P Q a w):c.wp P Q a w:=h ▸ o
noncomputable def odd12:Code:=(Tryz.f21.body.bind (regOf 12)).getD .skip
noncomputable def odd25:Code:=(Tryz.f21.body.bind (regOf 25)).getD .skip
theorem r12_wp {w1 W:World} {ok:Nat->Prop} {g cS c:Nat} {t k:Int} {s:List Int} {ks:List PT} {cs:List Value} {vK:Value}
  (J:OQ w1 W ok g t s ks cs (.slice (some ⟨gS,0,none⟩) s.length cS) vK) (hl:(PT.node t s ks).LenN c) (m1:W.cell? ⟨g,1,none⟩=some (.slice (some ⟨gS,0,none⟩) s.length cS)) (hz:0<s.length) (hi:i<s.length) (b2:k.tmod (s.length:Int)=(i:Int)) (b3:IntKind.i64.wrap (k.tmod (s.length:Int))=(i:Int)) (c0:s.length<=1000000000000)
  (G:∀c (a a':Act) w,a.defers=a'.defers->Q (.panic c) a w->Q (.panic c) a' w)
  (hQ:∀(W':World),OZ w1 W' ok g c (.node t s ks)->∀(x80 x81 x82 x83 x84 x85 x86 x87 x88 x89 x90 x91 x92 x93 x94 x95 x96 x97 x98:Value),Q .normal ⟨(u0 :: u1 :: u2 :: u3 :: u4 :: Value.pointer (some ⟨g,0,none⟩) :: Value.int .i64 k :: u7 :: u8 :: u9 :: u10 :: u11 :: u12 :: u13 :: u14 :: u15 :: u16 :: u17 :: u18 :: u19 :: u20 :: u21 :: u22 :: u23 :: u24 :: u25 :: u26 :: u27 :: u28 :: u29 :: u30 :: u31 :: u32 :: u33 :: u34 :: u35 :: u36 :: u37 :: u38 :: u39 :: u40 :: u41 :: u42 :: u43 :: u44 :: u45 :: u46 :: u47 :: u48 :: u49 :: u50 :: u51 :: u52 :: u53 :: u54 :: u55 :: u56 :: u57 :: u58 :: u59 :: u60 :: u61 :: u62 :: u63 :: u64 :: u65 :: u66 :: u67 :: u68 :: u69 :: u70 :: u71 :: u72 :: u73 :: u74 :: u75 :: u76 :: u77 :: u78 :: u79 :: x80 :: x81 :: x82 :: x83 :: x84 :: x85 :: x86 :: x87 :: x88 :: x89 :: x90 :: x91 :: x92 :: x93 :: x94 :: x95 :: x96 :: x97 :: x98 :: u99 :: u100 :: u101 :: u102 :: u103 :: u104 :: u105 :: u106 :: u107 :: u108 :: u109 :: u110 :: u111 :: u112 :: u113 :: u114 :: u115 :: u116 :: u117 :: u118 :: u119 :: u120 :: u121 :: u122 :: u123 :: u124 :: u125 :: u126 :: u127 :: u128 :: u129 :: u130 :: u131 :: u132 :: u133 :: u134 :: u135 :: u136 :: u137 :: u138 :: u139 :: u140 :: u141 :: u142 :: u143 :: u144 :: u145 :: u146 :: u147 :: u148 :: u149 :: u150 :: u151 :: u152 :: u153 :: u154 :: u155 :: u156 :: u157 :: u158 :: u159 :: u160 :: u161 :: u162 :: u163 :: []).toArray,[]⟩ W'):
  odd12.wp Tryz.prog Q ⟨(u0 :: u1 :: u2 :: u3 :: u4 :: Value.pointer (some ⟨g,0,none⟩) :: Value.int .i64 k :: u7 :: u8 :: u9 :: u10 :: u11 :: u12 :: u13 :: u14 :: u15 :: u16 :: u17 :: u18 :: u19 :: u20 :: u21 :: u22 :: u23 :: u24 :: u25 :: u26 :: u27 :: u28 :: u29 :: u30 :: u31 :: u32 :: u33 :: u34 :: u35 :: u36 :: u37 :: u38 :: u39 :: u40 :: u41 :: u42 :: u43 :: u44 :: u45 :: u46 :: u47 :: u48 :: u49 :: u50 :: u51 :: u52 :: u53 :: u54 :: u55 :: u56 :: u57 :: u58 :: u59 :: u60 :: u61 :: u62 :: u63 :: u64 :: u65 :: u66 :: u67 :: u68 :: u69 :: u70 :: u71 :: u72 :: u73 :: u74 :: u75 :: u76 :: u77 :: u78 :: u79 :: u80 :: u81 :: u82 :: u83 :: u84 :: u85 :: u86 :: u87 :: u88 :: u89 :: u90 :: u91 :: u92 :: u93 :: u94 :: u95 :: u96 :: u97 :: u98 :: u99 :: u100 :: u101 :: u102 :: u103 :: u104 :: u105 :: u106 :: u107 :: u108 :: u109 :: u110 :: u111 :: u112 :: u113 :: u114 :: u115 :: u116 :: u117 :: u118 :: u119 :: u120 :: u121 :: u122 :: u123 :: u124 :: u125 :: u126 :: u127 :: u128 :: u129 :: u130 :: u131 :: u132 :: u133 :: u134 :: u135 :: u136 :: u137 :: u138 :: u139 :: u140 :: u141 :: u142 :: u143 :: u144 :: u145 :: u146 :: u147 :: u148 :: u149 :: u150 :: u151 :: u152 :: u153 :: u154 :: u155 :: u156 :: u157 :: u158 :: u159 :: u160 :: u161 :: u162 :: u163 :: []).toArray,[]⟩ W:=by
 conv=>arg 2;whnf
 have hx:za w1 W:=J.ext;have c6:s≠[]:=fun e=>by rw [e] at hz;simp at hz
 have a3:=Bx J.side;have c8:IntKind.i64.wrap ((i:Int)+1)=((i+1:Nat):Int):=by rw [Em];omega
 have b6:((i+1:Nat):Int)<=(s.length:Int):=by omega
 have b5:(0:Int)<=((i+1:Nat):Int):=by omega
 have a6:(i:Int)+1<=(s.length:Int):=by omega
 have a5:(0:Int)<=(i:Int)+1:=by omega
 have b7:(i:Int)<=(cS:Int):=by omega
 have b8:(s.length:Int)<=(cS:Int):=by omega
 have b1:(0:Int)<=(i:Int):=by omega
 refine Ar (S:=(fun W'=>za w1 W'/\W'.cell? ⟨g,1,none⟩=some (.slice (some ⟨gS,0,none⟩) s.length cS))) zI (⟨hx.drew,m1⟩) fun zH=>?_;have I:za W W.drew:=(za.refl W).drew;generalize W.drew=wd at zH I⊢;refine DL 0 ?v1 G zH ?y1 ?_
 case y1=>(intro w o;obtain ⟨D,E⟩:=o;go_simp;try with_reducible rfl)
 simp only [zb,DN];refine DL 1 ?v2 G zH ?y2 ?_
 case y2=>(intro w o;obtain ⟨D,E⟩:=o;go_simp;try with_reducible rfl)
 simp only [zb,DN];refine DL 2 ?v3 G zH ?y3 ?_
 case y3=>(intro w o;obtain ⟨D,E⟩:=o;go_simp;try with_reducible rfl)
 simp only [zb,DN];refine DL 3 ?v4 G zH ?y4 ?_
 case y4=>(intro w o;obtain ⟨D,E⟩:=o;go_simp;try with_reducible rfl)
 simp only [zb,DN];refine DL 4 ?v5 G zH ?y5 ?_
 case y5=>(intro w o;obtain ⟨D,E⟩:=o;go_simp;try with_reducible rfl)
 simp only [zb,DN];refine DL 5 ?v6 G zH ?y6 ?_
 case y6=>(intro w o;obtain ⟨D,E⟩:=o;go_simp;try with_reducible rfl)
 simp only [zb,DN];refine DL 6 ?v7 G zH ?y7 ?_
 case y7=>(intro w o;obtain ⟨D,E⟩:=o;go_simp;try with_reducible rfl)
 simp only [zb,DN];refine DL 7 ?v8 G zH ?y8 ?_
 case y8=>(intro w o;obtain ⟨D,E⟩:=o;go_simp;try with_reducible rfl)
 simp only [zb,DN];refine DL 8 ?v9 G zH ?y9 ?_
 case y9=>(intro w o;obtain ⟨D,E⟩:=o;go_simp;try with_reducible rfl)
 simp only [zb,DN];refine DL 9 ?v10 G zH ?y10 ?_
 case y10=>(intro w o;obtain ⟨D,E⟩:=o;go_simp;try with_reducible rfl)
 simp only [zb,DN];refine DL 10 ?v11 G zH ?y11 ?_
 case y11=>(intro w o;obtain ⟨D,E⟩:=o;go_simp;try with_reducible rfl)
 simp only [zb,DN];refine DL 11 ?v12 G zH ?y12 ?_
 case y12=>(intro w o;obtain ⟨D,E⟩:=o;go_simp;try with_reducible rfl)
 simp only [zb,DN];refine DL 12 ?v13 G zH ?y13 ?_
 case y13=>(intro w o;obtain ⟨D,E⟩:=o;go_simp;try with_reducible rfl)
 simp only [zb,DN];refine DL 13 ?v14 G zH ?y14 ?_
 case y14=>(intro w o;obtain ⟨D,E⟩:=o;go_simp;try with_reducible rfl)
 simp only [zb,DN];refine DL 14 ?v15 G zH ?y15 ?_
 case y15=>(intro w o;obtain ⟨D,E⟩:=o;go_simp;try with_reducible rfl)
 simp only [zb,DN];refine DL 15 ?v16 G zH ?y16 ?_
 case y16=>(intro w o;obtain ⟨D,E⟩:=o;go_simp;try with_reducible rfl)
 simp only [zb,DN];refine DL 16 ?v17 G zH ?y17 ?_
 case y17=>(intro w o;obtain ⟨D,E⟩:=o;go_simp;try with_reducible rfl)
 simp only [zb,DN];have a0:wd.ownsRow w1.heap.size 3 1 (.slice (some ⟨gS,0,none⟩) i cS) i ((s.map (Value.int .i64)).take (i*1)):=own_take (Ag J.side I) (by omega)
 have V:Ae wd (fun b=>w1.heap.size<=b) 1 (.slice (if cS=i+1 then some ⟨gS,0,none⟩ else some ⟨gS,i+1,none⟩) (s.length - (i+1)) (cS - (i+1))) (s.length - (i+1)) ((s.drop (i+1)).map (Value.int .i64)):=by
  have h:zk wd (fun b=>w1.heap.size<=b) (.slice (if cS=i+1 then some ⟨gS,0,none⟩ else some ⟨gS,i+1,none⟩) (s.length - (i+1)) (cS - (i+1))) (s.drop (i+1)):=ints_drop (Ag J.side I) rfl (by omega) rfl (by omega) (fun h=>if_neg (by omega));unfold zk at h;rw [ER] at h;exact h
 refine rlR 17 fun K M=>?_;refine zW (ok:=fun b=>w1.heap.size<=b) (by rfl) wd _ _ eInt (by rfl) w1.heap.size i (s.length - (i+1)) ((s.map (Value.int .i64)).take (i*1)) ((s.drop (i+1)).map (Value.int .i64)) (.slice (some ⟨gS,0,none⟩) i cS) _ (by rfl) (by rfl) a0 V intsOne29 (DT hx.size I.size) (by unfold maxLen;omega) (by omega) ?_;intro v9 w9 ho hg c7;have U:=(J.ex I).grown hg (J.ex I).side_ne;have L:=U.2.1;have a1:=U.1
 have hO:zB w9 w1.heap.size v9 (s.take i++s.drop (i+1)):=by
  unfold zB;rw [DZ,EI,EJ,ER,List.map_take,Nat.min_eq_left (by omega)];rw [Nat.mul_one] at ho;exact ho
 have O:=(J.ex I).finS hl (fun b hb=>hb) hg hO (by rw [DZ,EJ,ER];omega);obtain ⟨A9,c9,rfl,-⟩:=Ae.of_own ho;have yf:∀j,w9.frozen? ⟨g,j,none⟩=false:=fun j=>L.frozen j
 have y1:=L.cell (k:=1) rfl;refine M.out _ _ ⟨a1,y1⟩ fun zH=>?_;clear M K;try simp only [zb,DN]
 refine DL 18 ?v18 G zH ?y18 ?_
 case y18=>(intro w o;obtain ⟨D,E⟩:=o;go_simp;try with_reducible rfl)
 simp only [zb,DN];refine rlZ 19 fun K M=>?_;go_simp;refine M.out _ _ ?_;clear M K;refine AI (by kernel_rfl) ?_ _;exact hQ _ O _ _ _ _ _ _ _ _ _ _ _ _ _ _ _ _ _ _ _
theorem r25_wp {w1 W:World} {ok:Nat->Prop} {g cK c:Nat} {t:Int} {s:List Int} {ks:List PT} {cs:List Value} {vS:Value} {u6:Value}
  (hq:OQ w1 W ok g t s ks cs vS (.slice (some ⟨gK,0,none⟩) ks.length cK)) (hl:(PT.node t s ks).LenN c) (m2:W.cell? ⟨g,2,none⟩=some (.slice (some ⟨gK,0,none⟩) ks.length cK)) (hz:1<ks.length)
  (L:∀c (a a':Act) w,a.defers=a'.defers->Q (.panic c) a w->Q (.panic c) a' w)
  (hQ:∀(W':World),OZ w1 W' ok g c (.node t s ks)->∀(x149 x150 x151 x152 x153 x154 x155 x156 x157 x158 x159 x160 x161 x162:Value),Q .normal ⟨(u0 :: u1 :: u2 :: u3 :: u4 :: Value.pointer (some ⟨g,0,none⟩) :: u6 :: u7 :: u8 :: u9 :: u10 :: u11 :: u12 :: u13 :: u14 :: u15 :: u16 :: u17 :: u18 :: u19 :: u20 :: u21 :: u22 :: u23 :: u24 :: u25 :: u26 :: u27 :: u28 :: u29 :: u30 :: u31 :: u32 :: u33 :: u34 :: u35 :: u36 :: u37 :: u38 :: u39 :: u40 :: u41 :: u42 :: u43 :: u44 :: u45 :: u46 :: u47 :: u48 :: u49 :: u50 :: u51 :: u52 :: u53 :: u54 :: u55 :: u56 :: u57 :: u58 :: u59 :: u60 :: u61 :: u62 :: u63 :: u64 :: u65 :: u66 :: u67 :: u68 :: u69 :: u70 :: u71 :: u72 :: u73 :: u74 :: u75 :: u76 :: u77 :: u78 :: u79 :: u80 :: u81 :: u82 :: u83 :: u84 :: u85 :: u86 :: u87 :: u88 :: u89 :: u90 :: u91 :: u92 :: u93 :: u94 :: u95 :: u96 :: u97 :: u98 :: u99 :: u100 :: u101 :: u102 :: u103 :: u104 :: u105 :: u106 :: u107 :: u108 :: u109 :: u110 :: u111 :: u112 :: u113 :: u114 :: u115 :: u116 :: u117 :: u118 :: u119 :: u120 :: u121 :: u122 :: u123 :: u124 :: u125 :: u126 :: u127 :: u128 :: u129 :: u130 :: u131 :: u132 :: u133 :: u134 :: u135 :: u136 :: u137 :: u138 :: u139 :: u140 :: u141 :: u142 :: u143 :: u144 :: u145 :: u146 :: u147 :: u148 :: x149 :: x150 :: x151 :: x152 :: x153 :: x154 :: x155 :: x156 :: x157 :: x158 :: x159 :: x160 :: x161 :: x162 :: u163 :: []).toArray,[]⟩ W'):
  odd25.wp Tryz.prog Q ⟨(u0 :: u1 :: u2 :: u3 :: u4 :: Value.pointer (some ⟨g,0,none⟩) :: u6 :: u7 :: u8 :: u9 :: u10 :: u11 :: u12 :: u13 :: u14 :: u15 :: u16 :: u17 :: u18 :: u19 :: u20 :: u21 :: u22 :: u23 :: u24 :: u25 :: u26 :: u27 :: u28 :: u29 :: u30 :: u31 :: u32 :: u33 :: u34 :: u35 :: u36 :: u37 :: u38 :: u39 :: u40 :: u41 :: u42 :: u43 :: u44 :: u45 :: u46 :: u47 :: u48 :: u49 :: u50 :: u51 :: u52 :: u53 :: u54 :: u55 :: u56 :: u57 :: u58 :: u59 :: u60 :: u61 :: u62 :: u63 :: u64 :: u65 :: u66 :: u67 :: u68 :: u69 :: u70 :: u71 :: u72 :: u73 :: u74 :: u75 :: u76 :: u77 :: u78 :: u79 :: u80 :: u81 :: u82 :: u83 :: u84 :: u85 :: u86 :: u87 :: u88 :: u89 :: u90 :: u91 :: u92 :: u93 :: u94 :: u95 :: u96 :: u97 :: u98 :: u99 :: u100 :: u101 :: u102 :: u103 :: u104 :: u105 :: u106 :: u107 :: u108 :: u109 :: u110 :: u111 :: u112 :: u113 :: u114 :: u115 :: u116 :: u117 :: u118 :: u119 :: u120 :: u121 :: u122 :: u123 :: u124 :: u125 :: u126 :: u127 :: u128 :: u129 :: u130 :: u131 :: u132 :: u133 :: u134 :: u135 :: u136 :: u137 :: u138 :: u139 :: u140 :: u141 :: u142 :: u143 :: u144 :: u145 :: u146 :: u147 :: u148 :: u149 :: u150 :: u151 :: u152 :: u153 :: u154 :: u155 :: u156 :: u157 :: u158 :: u159 :: u160 :: u161 :: u162 :: u163 :: []).toArray,[]⟩ W:=by
 conv=>arg 2;whnf
 have b8:cs.length=ks.length*3:=hq.own.1;have d6:=Bx hq.own;have hx:za w1 W:=hq.ext;have kc:∀j,j<ks.length*3->W.cell? ⟨gK,j,none⟩=some (cs.getD j undef):=fun j hj=>by rw [World.ownsRow.cellAt hq.own j hj,DP,DO (by omega)];rfl
 have a3:=hq.kq rfl;have e4:(1:Int)<(ks.length:Int):=by omega
 have e3:(0:Int)<(ks.length:Int):=by omega
 have d8:0<ks.length:=by omega
 have d9:ks≠[]:=fun e=>by rw [e] at hz;simp at hz
 have M:zM W (fun b=>(ok b\/w1.heap.size<=b)/\b≠gK) (.agg #[cs.getD 0 undef,cs.getD 1 undef,cs.getD 2 undef]) (ks[0]'(by omega)):=a3.each 0 (by omega);have xa0:=za.rule (kc (0) (by omega));have xa1:=za.rule (kc (1) (by omega));have xa2:=za.rule (kc (2) (by omega));obtain ⟨a0,a8⟩:∃a,a=cs.getD (0) undef:=⟨_,rfl⟩;rw [<-a8] at xa0 M;clear a8;obtain ⟨a1,a9⟩:∃a,a=cs.getD (1) undef:=⟨_,rfl⟩;rw [<-a9] at xa1 M;clear a9;obtain ⟨a2,b3⟩:∃a,a=cs.getD (2) undef:=⟨_,rfl⟩;rw [<-b3] at xa2 M;clear b3;obtain ⟨Aa,ca,Ka,da,e,-⟩:=M.form;injection e with e;have e0:=congrArg (fun a:Array Value=>a[0]?) e;have e1:=congrArg (fun a:Array Value=>a[1]?) e;have e2:=congrArg (fun a:Array Value=>a[2]?) e;simp at e0 e1 e2;obtain ⟨ta,d4⟩:∃t,a0=.int .i64 t:=⟨_,e0⟩;obtain ⟨na,c8⟩:∃n,a1=.slice Aa n ca:=⟨_,e1⟩;obtain ⟨ma,c6⟩:∃n,a2=.slice Ka n da:=⟨_,e2⟩;clear e e0 e1 e2;subst d4 c8 c6;have O:zM W (fun b=>(ok b\/w1.heap.size<=b)/\b≠gK) (.agg #[cs.getD 3 undef,cs.getD 4 undef,cs.getD 5 undef]) (ks[1]'(by omega)):=a3.each 1 (by omega);have xb0:=za.rule (kc (3) (by omega));have xb1:=za.rule (kc (4) (by omega));have xb2:=za.rule (kc (5) (by omega));obtain ⟨b0,b5⟩:∃a,a=cs.getD (3) undef:=⟨_,rfl⟩;rw [<-b5] at xb0 O;clear b5;obtain ⟨b1,b6⟩:∃a,a=cs.getD (4) undef:=⟨_,rfl⟩;rw [<-b6] at xb1 O;clear b6;obtain ⟨b2,b7⟩:∃a,a=cs.getD (5) undef:=⟨_,rfl⟩;rw [<-b7] at xb2 O;clear b7;obtain ⟨Ab,cb,Kb,db,e,-⟩:=O.form;injection e with e;have e0:=congrArg (fun a:Array Value=>a[0]?) e;have e1:=congrArg (fun a:Array Value=>a[1]?) e;have e2:=congrArg (fun a:Array Value=>a[2]?) e;simp at e0 e1 e2;obtain ⟨tb,d5⟩:∃t,b0=.int .i64 t:=⟨_,e0⟩;obtain ⟨nb,c9⟩:∃n,b1=.slice Ab n cb:=⟨_,e1⟩;obtain ⟨mb,c7⟩:∃n,b2=.slice Kb n db:=⟨_,e2⟩;clear e e0 e1 e2;subst d5 c9 c7;refine Ar (S:=(fun W'=>za w1 W'/\W'.cell? ⟨g,2,none⟩=some (.slice (some ⟨gK,0,none⟩) ks.length cK))) zI (⟨hx.drew,m2⟩) fun zH=>?_;have E:za W W.drew:=(za.refl W).drew;generalize W.drew=wd at zH E⊢;refine DL 0 ?v19 L zH ?y19 ?_
 case y19=>(intro w o;obtain ⟨G,I⟩:=o;go_simp;try with_reducible rfl)
 simp only [zb,DN];refine DL 1 ?v20 L zH ?y20 ?_
 case y20=>(intro w o;obtain ⟨G,I⟩:=o;go_simp;try with_reducible rfl)
 simp only [zb,DN];refine DL 2 ?v21 L zH ?y21 ?_
 case y21=>(intro w o;obtain ⟨G,I⟩:=o;go_simp;try with_reducible rfl)
 simp only [zb,DN];refine DL 3 ?v22 L zH ?y22 ?_
 case y22=>(intro w o;obtain ⟨G,I⟩:=o;go_simp;try with_reducible rfl)
 simp only [zb,DN];refine DL 4 ?v23 L zH ?y23 ?_
 case y23=>(intro w o;obtain ⟨G,I⟩:=o;go_simp;try with_reducible rfl)
 simp only [zb,DN];refine DL 5 ?v24 L zH ?y24 ?_
 case y24=>(intro w o;obtain ⟨G,I⟩:=o;go_simp;try with_reducible rfl)
 simp only [zb,DN];refine DL 6 ?v25 L zH ?y25 ?_
 case y25=>(intro w o;obtain ⟨G,I⟩:=o;go_simp;try with_reducible rfl)
 simp only [zb,DN];refine DL 8 ?v26 L zH ?y26 ?_
 case y26=>(intro w o;obtain ⟨G,I⟩:=o;go_simp;try with_reducible rfl)
 simp only [zb,DN];refine DL 9 ?v27 L zH ?y27 ?_
 case y27=>(intro w o;obtain ⟨G,I⟩:=o;go_simp;try with_reducible rfl)
 simp only [zb,DN];refine DL 10 ?v28 L zH ?y28 ?_
 case y28=>(intro w o;obtain ⟨G,I⟩:=o;go_simp;try with_reducible rfl)
 simp only [zb,DN];refine Cy (rs:=[7,11]) (by kernel_rfl) (by simp) ?_;refine Ay.cons rfl (fun K J=>?_) ?_
 ·go_simp;refine EZ J zH fun zH=>?_;clear J K;try simp only [zb,DN]
  refine rlR 11 fun K J=>?_;go_simp;refine EZ J zH fun zH=>?_;clear J K;try simp only [zb,DN]
  refine DL 12 ?v29 L zH ?y29 ?_
  case y29=>(intro w o;obtain ⟨G,I⟩:=o;go_simp;try with_reducible rfl)
  simp only [zb,DN];have kf:∀j,wd.frozen? ⟨gK,j,none⟩=false:=fun j=>World.ownsRow.frozenAt (Ag hq.own E) j
  have z0:=xa0 _ E;have z1:=xa1 _ E;have z2:=xa2 _ E;refine rlR 13 fun K J=>?_;go_simp;have D:=(a3.ex E).set (i:=0) (by omega) (O.ext E);have V:zM (((wd.setCell ⟨gK,0,none⟩ (.int .i64 tb)).setCell ⟨gK,1,none⟩ (.slice Ab nb cb)).setCell ⟨gK,2,none⟩ (.slice Kb mb db)) (fun b=>(ok b\/w1.heap.size<=b)/\b≠gK) (.agg #[(.int .i64 ta),(.slice Aa na ca),(.slice Ka ma da)]) (ks[0]'(by omega)):=(M.ext E).keepW (fun k hk _=>((AO k hk.2).trans (AO k hk.2)).trans (AO k hk.2)) fun _ h=>h
  have D:KQ w1 (((wd.setCell ⟨gK,0,none⟩ (.int .i64 tb)).setCell ⟨gK,1,none⟩ (.slice Ab nb cb)).setCell ⟨gK,2,none⟩ (.slice Kb mb db)) ok g t s (ks.set 0 (ks[1]'(by omega))) (set3 cs 0 (.int .i64 tb) (.slice Ab nb cb) (.slice Kb mb db)) vS gK cK:=D;have U:za w1 (((wd.setCell ⟨gK,0,none⟩ (.int .i64 tb)).setCell ⟨gK,1,none⟩ (.slice Ab nb cb)).setCell ⟨gK,2,none⟩ (.slice Kb mb db))/\(((wd.setCell ⟨gK,0,none⟩ (.int .i64 tb)).setCell ⟨gK,1,none⟩ (.slice Ab nb cb)).setCell ⟨gK,2,none⟩ (.slice Kb mb db)).cell? ⟨g,2,none⟩=some (.slice (some ⟨gK,0,none⟩) ks.length cK):=⟨D.ext,by have h:=D.box.cell (k:=2) rfl;rw [List.length_set] at h;exact h⟩;generalize (((wd.setCell ⟨gK,0,none⟩ (.int .i64 tb)).setCell ⟨gK,1,none⟩ (.slice Ab nb cb)).setCell ⟨gK,2,none⟩ (.slice Kb mb db))=we at D V U⊢;refine EZ J U fun zH=>?_;clear J K;try simp only [zb,DN]
  have b9:(set3 cs 0 (.int .i64 tb) (.slice Ab nb cb) (.slice Kb mb db)).length=ks.length*3:=by unfold set3;simp only [List.length_set];exact b8
  have k2:∀j,j<ks.length*3->we.cell? ⟨gK,j,none⟩=some ((set3 cs 0 (.int .i64 tb) (.slice Ab nb cb) (.slice Kb mb db)).getD j undef):=fun j hj=>by rw [World.ownsRow.cellAt D.own j (by rw [List.length_set];exact hj),DP,DO (by omega)];rfl
  have z3:=k2 3 (by omega);have z4:=k2 4 (by omega);have z5:=k2 5 (by omega);have zf:∀j,we.frozen? ⟨gK,j,none⟩=false:=fun j=>World.ownsRow.frozenAt D.own j
  generalize (set3 cs 0 (.int .i64 tb) (.slice Ab nb cb) (.slice Kb mb db)).getD 3 undef=c3 at z3;generalize (set3 cs 0 (.int .i64 tb) (.slice Ab nb cb) (.slice Kb mb db)).getD 4 undef=c4 at z4;generalize (set3 cs 0 (.int .i64 tb) (.slice Ab nb cb) (.slice Kb mb db)).getD 5 undef=c5 at z5;have a5:=D.set (i:=1) (by rw [List.length_set];exact hz) V;refine DL 14 ?v30 L zH ?y30 ?_
  case y30=>(intro w o;obtain ⟨G,I⟩:=o;go_simp;try with_reducible rfl)
  simp only [zb,DN];refine rlZ 15 fun K J=>?_;go_simp;refine J.out _ _ ?_;clear J K;refine AI (by kernel_rfl) ?_ _;exact hQ _ (a5.fin (odd_swap hl hz)) _ _ _ _ _ _ _ _ _ _ _ _ _ _
 refine Ay.cons rfl (fun K J=>?_) Ay.nil
 ·go_simp;refine EZ J zH fun zH=>?_;clear J K;try simp only [zb,DN]
  refine rlR 7 fun K J=>?_;go_simp;refine EZ J zH fun zH=>?_;clear J K;try simp only [zb,DN]
  refine DL 12 ?v31 L zH ?y31 ?_
  case y31=>(intro w o;obtain ⟨G,I⟩:=o;go_simp;try with_reducible rfl)
  simp only [zb,DN];have kf:∀j,wd.frozen? ⟨gK,j,none⟩=false:=fun j=>World.ownsRow.frozenAt (Ag hq.own E) j
  have z0:=xa0 _ E;have z1:=xa1 _ E;have z2:=xa2 _ E;refine rlR 13 fun K J=>?_;go_simp;have D:=(a3.ex E).set (i:=0) (by omega) (O.ext E);have V:zM (((wd.setCell ⟨gK,0,none⟩ (.int .i64 tb)).setCell ⟨gK,1,none⟩ (.slice Ab nb cb)).setCell ⟨gK,2,none⟩ (.slice Kb mb db)) (fun b=>(ok b\/w1.heap.size<=b)/\b≠gK) (.agg #[(.int .i64 ta),(.slice Aa na ca),(.slice Ka ma da)]) (ks[0]'(by omega)):=(M.ext E).keepW (fun k hk _=>((AO k hk.2).trans (AO k hk.2)).trans (AO k hk.2)) fun _ h=>h
  have D:KQ w1 (((wd.setCell ⟨gK,0,none⟩ (.int .i64 tb)).setCell ⟨gK,1,none⟩ (.slice Ab nb cb)).setCell ⟨gK,2,none⟩ (.slice Kb mb db)) ok g t s (ks.set 0 (ks[1]'(by omega))) (set3 cs 0 (.int .i64 tb) (.slice Ab nb cb) (.slice Kb mb db)) vS gK cK:=D;have U:za w1 (((wd.setCell ⟨gK,0,none⟩ (.int .i64 tb)).setCell ⟨gK,1,none⟩ (.slice Ab nb cb)).setCell ⟨gK,2,none⟩ (.slice Kb mb db))/\(((wd.setCell ⟨gK,0,none⟩ (.int .i64 tb)).setCell ⟨gK,1,none⟩ (.slice Ab nb cb)).setCell ⟨gK,2,none⟩ (.slice Kb mb db)).cell? ⟨g,2,none⟩=some (.slice (some ⟨gK,0,none⟩) ks.length cK):=⟨D.ext,by have h:=D.box.cell (k:=2) rfl;rw [List.length_set] at h;exact h⟩;generalize (((wd.setCell ⟨gK,0,none⟩ (.int .i64 tb)).setCell ⟨gK,1,none⟩ (.slice Ab nb cb)).setCell ⟨gK,2,none⟩ (.slice Kb mb db))=we at D V U⊢;refine EZ J U fun zH=>?_;clear J K;try simp only [zb,DN]
  have b9:(set3 cs 0 (.int .i64 tb) (.slice Ab nb cb) (.slice Kb mb db)).length=ks.length*3:=by unfold set3;simp only [List.length_set];exact b8
  have k2:∀j,j<ks.length*3->we.cell? ⟨gK,j,none⟩=some ((set3 cs 0 (.int .i64 tb) (.slice Ab nb cb) (.slice Kb mb db)).getD j undef):=fun j hj=>by rw [World.ownsRow.cellAt D.own j (by rw [List.length_set];exact hj),DP,DO (by omega)];rfl
  have z3:=k2 3 (by omega);have z4:=k2 4 (by omega);have z5:=k2 5 (by omega);have zf:∀j,we.frozen? ⟨gK,j,none⟩=false:=fun j=>World.ownsRow.frozenAt D.own j
  generalize (set3 cs 0 (.int .i64 tb) (.slice Ab nb cb) (.slice Kb mb db)).getD 3 undef=c3 at z3;generalize (set3 cs 0 (.int .i64 tb) (.slice Ab nb cb) (.slice Kb mb db)).getD 4 undef=c4 at z4;generalize (set3 cs 0 (.int .i64 tb) (.slice Ab nb cb) (.slice Kb mb db)).getD 5 undef=c5 at z5;have a5:=D.set (i:=1) (by rw [List.length_set];exact hz) V;refine DL 14 ?v32 L zH ?y32 ?_
  case y32=>(intro w o;obtain ⟨G,I⟩:=o;go_simp;try with_reducible rfl)
  simp only [zb,DN];refine rlZ 15 fun K J=>?_;go_simp;refine J.out _ _ ?_;clear J K;refine AI (by kernel_rfl) ?_ _;exact hQ _ (a5.fin (odd_swap hl hz)) _ _ _ _ _ _ _ _ _ _ _ _ _ _
end
end Go.Proofs.YtjomnbdjajjgfaaGreatDoor
