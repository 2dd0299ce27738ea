import Derived.Test.YtjomnbdjajjgfaaGreatDoorWKi
import Derived.Deep.DeepCutAuto
set_option linter.unusedVariables false
set_option linter.unusedSimpArgs false
set_option maxRecDepth 100000
set_option maxHeartbeats 16000000
namespace Go.Proofs.YtjomnbdjajjgfaaGreatDoor
variable {a:Act} {K:Act->World->Prop} {ops:Array Oper} {Q:Exit->Act->World->Prop} {ns:List ByteArray} {l:List Int} {xs:List Value} {m:MZ} {bytes cap sz:Nat} {ok:Nat->Prop} {o:Obj} {vF' vT' z:Value} {w5:World}
section
open Go.RowKit
def TasksN (w:World) (ok:Nat->Prop) (v:Value) (l:List (List Int×List Int)) (ns:List ByteArray):Prop:=
 ns.length=l.length/\∃vs,Ae w ok 3 v l.length vs/\∀(i:Nat) x s,l[i]?=some x->ns[i]?=some s->∃u1 u2,vs[i*3]?=some (.string s)/\vs[i*3+1]?=some u1/\vs[i*3+2]?=some u2/\zk w ok u1 x.1/\zk w ok u2 x.2
def MazeN (w:World) (ok:Nat->Prop) (v:Value) (m:MZ) (ns:List ByteArray):Prop:=
 ∃f u t,v=.agg #[.int .i64 m.w,.int .i64 m.h,.int .i64 m.l,f,u,t]/\Bi w ok f m.free/\Bo w ok u m.up/\TasksN w ok t m.tasks ns
theorem TasksN.tasks {w:World} {v:Value} {l:List (List Int×List Int)} (h:TasksN w ok v l ns):Bz w ok v l:=by
 obtain ⟨J,vs,G,he⟩:=h;refine ⟨vs,G,fun i x E=>?_⟩;obtain ⟨I,-⟩:=List.getElem?_eq_some_iff.1 E;obtain ⟨u1,u2,h0,h1,h2,i1,i2⟩:=he i x _ E (DO (by omega));exact ⟨_,u1,u2,h0,h1,h2,i1,i2⟩
theorem MazeN.maze {w:World} {v:Value} (h:MazeN w ok v m ns):zt w ok v m:=by
 obtain ⟨f,u,t,rfl,h1,h2,h3⟩:=h;exact ⟨f,u,t,rfl,h1,h2,h3.tasks⟩
theorem Bz.nets {w:World} {v:Value} {l:List (List Int×List Int)} (h:Bz w ok v l):∃ns,TasksN w ok v l ns:=by
 obtain ⟨vs,J,he⟩:=h;refine ⟨(List.range l.length).map fun i=>match vs[i*3]? with | some (Value.string s)=>s | _=>(⟨#[]⟩:ByteArray),by simp,vs,J,fun i x s G E=>?_⟩;obtain ⟨s',u1,u2,h0,h1,h2,i1,i2⟩:=he i x G;rw [EA] at E;obtain ⟨I,-⟩:=List.getElem?_eq_some_iff.1 G;rw [List.getElem?_range I] at E;simp only [Option.map_some,h0] at E;injection E with E;subst E;exact ⟨u1,u2,h0,h1,h2,i1,i2⟩
theorem zt.nets {w:World} {ok:Nat->Prop} {v:Value} {m:MZ} (h:zt w ok v m):∃ns,MazeN w ok v m ns:=by
 obtain ⟨f,u,t,rfl,h1,h2,h3⟩:=h;obtain ⟨ns,E⟩:=h3.nets;exact ⟨ns,f,u,t,rfl,h1,h2,E⟩
theorem TasksN.below {w w':World} {ok:Nat->Prop} {v:Value} {l:List (List Int×List Int)} {ns:List ByteArray} (h:TasksN w ok v l ns) (E:Below w.heap.size w w'):TasksN w' ok v l ns:=by
 obtain ⟨G,vs,I,he⟩:=h;refine ⟨G,vs,I.below E,fun i x s M J=>?_⟩;obtain ⟨u1,u2,h0,h1,h2,i1,i2⟩:=he i x s M J;exact ⟨u1,u2,h0,h1,h2,i1.below E,i2.below E⟩
theorem MazeN.keepW {w w':World} {ok':Nat->Prop} {v:Value} (h:MazeN w ok v m ns) (E:zK ok w w') (G:∀b,ok b->ok' b):MazeN w' ok' v m ns:=by
 obtain ⟨f,u,t,rfl,h1,h2,I,vs,J,he⟩:=h;refine ⟨f,u,t,rfl,(h1.keep E).weaken G,(h2.keep E).weaken G,I,vs,(J.keep E).weaken G,fun i x s O M=>?_⟩;obtain ⟨u1,u2,q0,q1,q2,i1,i2⟩:=he i x s O M;exact ⟨u1,u2,q0,q1,q2,(i1.keep E).weaken G,(i2.keep E).weaken G⟩
theorem MazeN.below {w w':World} {v:Value} (h:MazeN w ok v m ns) (E:Below w.heap.size w w'):MazeN w' ok v m ns:=h.keepW (zK.of_below E) (fun _ h=>h)
abbrev NetS:={s:ByteArray // s.size<=1}
end
section
open Go.RowKit
attribute [local go_sem ↓] Go.wp_at_zero Go.wp_at_succ
theorem box6 (w:World) (a0 a1 a2 a3 a4 a5:Value):za w (w.alloc (.cells #[a0,a1,a2,a3,a4,a5] 32))/\
  (∀W,za (w.alloc (.cells #[a0,a1,a2,a3,a4,a5] 32)) W->W.cell? ⟨w.heap.size,0,none⟩=some a0)/\(∀W,za (w.alloc (.cells #[a0,a1,a2,a3,a4,a5] 32)) W->W.cell? ⟨w.heap.size,1,none⟩=some a1)/\
  (∀W,za (w.alloc (.cells #[a0,a1,a2,a3,a4,a5] 32)) W->W.cell? ⟨w.heap.size,2,none⟩=some a2)/\(∀W,za (w.alloc (.cells #[a0,a1,a2,a3,a4,a5] 32)) W->W.cell? ⟨w.heap.size,3,none⟩=some a3)/\
  (∀W,za (w.alloc (.cells #[a0,a1,a2,a3,a4,a5] 32)) W->W.cell? ⟨w.heap.size,4,none⟩=some a4)/\(∀W,za (w.alloc (.cells #[a0,a1,a2,a3,a4,a5] 32)) W->W.cell? ⟨w.heap.size,5,none⟩=some a5):=by
 have E:=zd.new w #[a0,a1,a2,a3,a4,a5] 32 rfl;exact ⟨(za.refl w).alloc _,za.rule (E.cell (k:=0) rfl),za.rule (E.cell (k:=1) rfl),za.rule (E.cell (k:=2) rfl),za.rule (E.cell (k:=3) rfl),za.rule (E.cell (k:=4) rfl),za.rule (E.cell (k:=5) rfl)⟩
theorem zt.parts {w:World} {v:Value} (h:zt w ok v m):∃Af cf Au cu At ct,v=.agg #[.int .i64 m.w,.int .i64 m.h,.int .i64 m.l,.slice Af m.free.length cf,.slice Au m.up.length cu,.slice At m.tasks.length ct]/\
  Bi w ok (.slice Af m.free.length cf) m.free/\Bo w ok (.slice Au m.up.length cu) m.up/\Bz w ok (.slice At m.tasks.length ct) m.tasks:=by
 obtain ⟨vfr,vup,vts,rfl,hf,J,ht⟩:=h;have E:=hf;have I:=J;have G:=ht;obtain ⟨_,⟨Af,cf,rfl,-⟩,-⟩:=E;obtain ⟨Au,cu,rfl,-⟩:=I;obtain ⟨_,⟨At,ct,rfl,-⟩,-⟩:=G;exact ⟨Af,cf,Au,cu,At,ct,rfl,hf,J,ht⟩
theorem freeCells {W:World} {Af:Option Addr} {cf:Nat} (h:Bi W ok (.slice Af m.free.length cf) m.free) (hfn:∀f∈m.free,(f.length:Int)=m.n) {t:Nat} (ht:t<m.free.length) {n:Int} (h0:0<=n) (h1:n<m.n):
  ∃b off b' off' l c',Af=some ⟨b,off,none⟩/\W.cell? ⟨b,off+t,none⟩=some (.slice (some ⟨b',off',none⟩) l c')/\n<(l:Int)/\l<=c'/\m.free.length<=cf/\W.cell? ⟨b',off'+n.toNat,none⟩=some (.bool (ze m t n)):=by
 obtain ⟨vsf,⟨A,c,e,O,a3⟩,U⟩:=h;injection e with e1 e2 e3;subst e1 e3;obtain ⟨bf,off3,uf,rfl,_,I,J⟩:=Br a3 U ht ht;have a0:=hfn _ (DS ht);obtain ⟨A4,c4,rfl,M,a2⟩:=J;have G:n.toNat<(m.free[t]).length:=by omega
 obtain ⟨b4,off4,rfl,_,E⟩:=BP a2 G G;have a1:(m.free[t])[n.toNat]=ze m t n:=by simp [ze,ht,G]
 rw [a1] at E;exact ⟨bf,off3,b4,off4,_,c4,rfl,I,by omega,M,O,E⟩
theorem zZ.ext {w w':World} (h:zZ w w'):za w w':=h.below _
end
section
open Go.RowKit
def StV (V:Nat->Value->World->Prop):Prop:=∀j x W W',za W W'->V j x W->V j x W'
theorem StV.ext {V:Nat->Value->World->Prop} (h:StV V) {j:Nat} {x:Value} {W W':World} (E:za W W') (G:V j x W):V j x W':=h j x W W' E G
section
variable {V:Nat->Value->World->Prop} {D:Nat->List Nat} {w9 W W':World} {A:List Nat} {ja jf js:Nat} {gp:Value} {PA:Value->World->Prop} {PS:World->Prop} {e:Nat->Bool} {v:Nat->Value} {j:Nat} {x:Value}
theorem upd_true {e:Nat->Bool} {j d:Nat} (h:e d=true):AM e j true d=true:=by
 by_cases E:d=j
 ·subst E;exact Cg e d true
 ·rw [AX e true E];exact h
end
def drawV (l:List Int) (k:Nat) (n:Int):Int:=if h:k<l.length then l[k] % n else 0
def drawK (l:List Int) (k:Nat):Nat:=if k<l.length then k+1 else k
theorem draw_calls {v:Value} (gd k:Nat) (n:Int) (w:World) (hb:zd w gd 118 #[v,.int .i64 k]) (h:zk w ok v l) (hg:¬ ok gd) (hl:l.length<=9223372036854775807) (hk:k<=l.length) (hn:0<n) (b1:n<=1000000):
  Calls Tryz.prog 72 #[.pointer (some ⟨gd,0,none⟩),.int .i64 n] w fun e w'=>e=.returned (.int .i64 (drawV l k n))/\zd w' gd 118 #[v,.int .i64 (drawK l k)]/\w.grownBy w' (some gd):=by
 obtain ⟨A,c,rfl,hc,hr⟩:=h;have a1:=hb.cell (k:=0) rfl;have a2:=hb.cell (k:=1) rfl;have hx:=za.refl w;by_cases I:k<l.length
 ·obtain ⟨b,off,rfl,b3,E⟩:=zE hr I I;have a8:b≠gd:=fun e=>hg (e ▸ b3)
  have hv:drawV l k n=l[k] % n:=by unfold drawV;rw [dif_pos I]
  have O:drawK l k=k+1:=by unfold drawK;rw [if_pos I]
  rw [hv,O];clear hv O hr;obtain ⟨x,a5⟩:=EY (l[k]);rw [<-a5] at E⊢;clear a5;have hf:=hb.frozen 1;have HB:=zh hb;clear hb;have hd:decide ((l.length:Int)<=(k:Int))=false:=DV (by omega)
  go_enter Tryz.func72,Tryz.ntmps72
  go_wp2_with fail
  go_quiet (fail)
  generalize a3:w.drewN nq=w1;have a9:zZ w w1:=⟨nq,a3.symm⟩;have M:za w w1:=a9.below _;have hh:w1.heap=w.heap:=by rw [<-a3];rfl
  clear a3 a1 a2 hf;have J:zd w1 gd 118 #[.slice (some ⟨b,off,none⟩) l.length c,.int .i64 k]:=HB.out.ext M;have a1:=J.cell (k:=0) rfl;have a2:=J.cell (k:=1) rfl;have hf:=J.frozen 1;have G:=M.cell E;have U:Hid (zd (w1.setCell ⟨gd,1,none⟩ (.int .i64 ((k:Int)+1))) gd 118 #[.slice (some ⟨b,off,none⟩) l.length c,.int .i64 ((k:Int)+1)]):=J.set (k:=1) _;have a6:(w1.setCell ⟨gd,1,none⟩ (.int .i64 ((k:Int)+1))).cell? ⟨b,off+k,none⟩=some (.int .i64 x):=(Eg (w:=w1) (Ea w1 _ _ b a8)).trans G;have HG:Hid (w.grownBy (w1.setCell ⟨gd,1,none⟩ (.int .i64 ((k:Int)+1))) (some gd)):=⟨M.os,M.tape,M.output,by simp [hh],fun i hi b2=>by rw [Ea w1 _ _ i (fun e=>b2 (by rw [e])),hh]⟩;have b5:=U.out.cell (k:=0) rfl;have b6:=U.out.cell (k:=1) rfl;clear J E;go_upto_region 4 with fail;generalize w1.setCell ⟨gd,1,none⟩ (.int .i64 ((k:Int)+1))=w2 at*;clear a1 a2 hf G;have c7:=za.refl w2;have c0:(k:Int)<(l.length:Int):=by omega
  go_quiet ((go_at_call 40;refine (mod_calls x n _ hn b1).mono ?_;rintro e w9 ⟨b0,rfl⟩;exact ⟨b0,⟨_,rfl⟩⟩))
  go_wp2;go_ret;refine ⟨rfl,U.out.ext ((za.refl w2).drewN _),?_⟩;have h:=HG.out;exact ⟨h.os,h.tape,h.output,h.size,h.block⟩
 ·have hv:drawV l k n=0:=by unfold drawV;rw [dif_neg I]
  have O:drawK l k=k:=by unfold drawK;rw [if_neg I]
  rw [hv,O];clear hv O hr;have HB:=zh hb;clear hb;have hd:decide ((l.length:Int)<=(k:Int))=true:=DU (by omega)
  go_enter Tryz.func72,Tryz.ntmps72
  go_wp2_with fail
  go_quiet (fail)
  go_wp2;go_ret;exact ⟨rfl,HB.out,⟨rfl,rfl,rfl,DR _,fun _ _ _=>rfl⟩⟩
theorem Tryz.infoTask:(Tryz.prog.info? 87).map (fun i=>(i.zero,i.size,i.bytes))=some (some (.agg #[.string ⟨#[]⟩,.slice none 0 0,.slice none 0 0]),3,64):=by kernel_rfl
theorem Tryz.infoBools:(Tryz.prog.info? 29).map (fun i=>(i.zero,i.size,i.bytes))=some (some (.slice none 0 0),1,24):=by kernel_rfl
def zP (B:Nat) (w:World) (g:Nat):Prop:=B<=g/\∃(v:Value) (k:Nat) (l:List Int),zd w g 118 #[v,.int .i64 k]/\zk w (fun b=>b<B) v l/\l.length<=9223372036854775807/\k<=l.length
section
variable {B:Nat} {w w':World} {g:Nat}
theorem zP.keep (h:zP B w g) (G:Below B w w') (E:w'.heap[g]?=w.heap[g]?):zP B w' g:=by
 obtain ⟨h0,v,k,l,h1,h2,h3⟩:=h;exact ⟨h0,v,k,l,E.trans h1,h2.keep fun b E I=>G.block b E,h3⟩
theorem zP.ext (h:zP B w g) (E:za w w') (G:B<=w.heap.size):zP B w' g:=by
 obtain ⟨h0,v,k,l,h1,h2,h3⟩:=h;exact ⟨h0,v,k,l,(E.block g (zc h1)).trans h1,h2.below E,h3⟩
theorem zP.lt (h:zP B w g):g<w.heap.size:=by
 obtain ⟨h0,v,k,l,h1,h2,h3⟩:=h;exact zc h1
theorem zP.blk (h:zP B w g):∃cs,zd w g 118 cs:=by
 obtain ⟨h0,v,k,l,h1,h2,h3⟩:=h;exact ⟨_,h1⟩
theorem zV (n:Int) (h:zP B w g) (G:0<n) (I:n<=1000000):
  Calls Tryz.prog 72 #[.pointer (some ⟨g,0,none⟩),.int .i64 n] w fun e w'=>∃x,e=.returned (.int .i64 x)/\0<=x/\x<n/\zP B w' g/\w.grownBy w' (some g):=by
 obtain ⟨h0,v,k,l,h1,h2,h3,O⟩:=h;refine (draw_calls g k n w h1 h2 (by omega) h3 O G I).mono ?_;rintro e w' ⟨rfl,J,M⟩;refine ⟨_,rfl,?_,?_,⟨h0,v,drawK l k,l,J,h2.keep fun b J E=>M.block b E (fun e=>by injection e with e;omega),h3,?_⟩,M⟩
 ·unfold drawV
  split
  ·exact Int.emod_nonneg _ (by omega)
  ·exact Int.le_refl _
 ·unfold drawV
  split
  ·exact Int.emod_lt_of_pos _ G
  ·exact G
 ·unfold drawK
  split <;> omega
end
theorem zv {w w':World} {B:Nat} {e:TypeId} {n:Nat} {v:Value} (h:w.ownsRow B e sz v n xs) (G:∀g,v.ownBlock=some g->w'.heap[g]?=w.heap[g]?):w'.ownsRow B e sz v n xs:=by
 obtain ⟨E,h0 | ⟨g,cap,cur,rfl,h1,h2,h3⟩⟩:=h
 ·exact ⟨E,.inl h0⟩
 ·exact ⟨E,.inr ⟨g,cap,cur,rfl,h1,(G g rfl).trans h2,h3⟩⟩
def OwnB (w:World) (B:Nat) (v:Value) (l:List Bool):Prop:=w.ownsRow B 4 1 v l.length (l.map Value.bool)
theorem OwnB.bools {w:World} {B:Nat} {v:Value} {l:List Bool} (h:OwnB w B v l):Bo w (fun b=>B<=b) v l:=Ae.of_own h
def BoolD (w:World) (B S n:Nat) (u:Value):Prop:=∃l,OwnB w B u l/\l.length=n/\∀g,u.ownBlock=some g->g<S
def TaskD (w:World) (B S n:Nat) (u1 u2:Value):Prop:=
 ∃l1 l2,zB w B u1 l1/\zB w B u2 l2/\(l1≠[]/\l2≠[])/\(l1.length<=2/\l2.length<=2)/\(∀x,x∈l1\/x∈l2->0<=x/\x<n)/\(∀g,u1.ownBlock=some g\/u2.ownBlock=some g->g<S)
section
variable {w w':World} {B S S' n:Nat} {u u1 u2:Value}
theorem BoolD.keep (h:BoolD w B S n u) (U:∀g cs,g<S->zd w g 4 cs->w'.heap[g]?=w.heap[g]?) (M:S<=S'):BoolD w' B S' n u:=by
 obtain ⟨l,h1,h2,h3⟩:=h;refine ⟨l,?_,h2,fun g O=>Et (h3 g O) M⟩;obtain ⟨G,h0 | ⟨g,cap,cur,rfl,I,E,J⟩⟩:=h1
 ·exact ⟨G,.inl h0⟩
 ·exact ⟨G,.inr ⟨g,cap,cur,rfl,I,(U g cur (h3 g rfl) E).trans E,J⟩⟩
theorem BB {v:Value} (h:zB w B v l) (M:∀g cs,v.ownBlock=some g->zd w g 3 cs->w'.heap[g]?=w.heap[g]?):zB w' B v l:=by
 obtain ⟨G,h0 | ⟨g,cap,cur,rfl,I,E,J⟩⟩:=h
 ·exact ⟨G,.inl h0⟩
 ·exact ⟨G,.inr ⟨g,cap,cur,rfl,I,(M g cur rfl E).trans E,J⟩⟩
theorem TaskD.keep (h:TaskD w B S n u1 u2) (J:∀g cs,g<S->zd w g 3 cs->w'.heap[g]?=w.heap[g]?) (U:S<=S'):TaskD w' B S' n u1 u2:=by
 obtain ⟨l1,l2,h1,h2,h3,M,O,G⟩:=h;exact ⟨l1,l2,BB h1 (fun g cs E I=>J g cs (G g (.inl E)) I),BB h2 (fun g cs E I=>J g cs (G g (.inr E)) I),h3,M,O,fun g E=>Et (G g E) U⟩
theorem BoolD.store (h:BoolD w B S n u) (p:Addr) (hp:p.spot=none) (b:Bool):BoolD (w.setCell p (.bool b)) B S n u:=by
 obtain ⟨l,h1,h2,h3⟩:=h;obtain ⟨pb,po,ps⟩:=p;obtain rfl:ps=none:=hp;obtain ⟨I,⟨rfl,h0⟩ | ⟨g,cap,cur,rfl,J,M,O,U,h8,h9⟩⟩:=h1
 ·exact ⟨l,⟨I,.inl ⟨rfl,h0⟩⟩,h2,h3⟩
 ·by_cases hg:g=pb
  ·subst hg;refine ⟨l.set po b,?_,by simpa using h2,h3⟩;have E:w.ownsRow B 4 1 (.slice (some ⟨g,0,none⟩) l.length cap) l.length (l.map Value.bool):=⟨I,.inr ⟨g,cap,cur,rfl,J,M,O,U,h8,h9⟩⟩;have G:=(E.stored po (.bool b)).1;unfold OwnB;rw [List.length_set,List.map_set];exact G
  ·exact ⟨l,⟨I,.inr ⟨g,cap,cur,rfl,J,(Ea w ⟨pb,po,none⟩ _ g hg).trans M,O,U,h8,h9⟩⟩,h2,h3⟩
end
structure MS (B:Nat) (w:World) (S gm gd:Nat) (W H L:Int) (n tF tT:Nat) (vF vU vT:Value) (fs ts:List Value):Prop where
 hB:B<=w.heap.size
 hS:S<=w.heap.size
 mz:zd w gm 32 #[.int .i64 W,.int .i64 H,.int .i64 L,vF,vU,vT]
 gm0:B<=gm
 dr:zP B w gd
 F:w.ownsRow B 29 1 vF tF fs
 T:w.ownsRow B 87 3 vT tT ts
 fd:∀j,j<tF->∃u,fs[j]?=some u/\BoolD w B S n u
 td:∀j,j<tT->∃(s:NetS) (u1 u2:Value),ts[j*3]?=some (.string s)/\ts[j*3+1]?=some u1/\ts[j*3+2]?=some u2/\TaskD w B S n u1 u2
section
variable {B:Nat} {w w':World} {S S' gm gd:Nat} {W H L:Int} {n tF tT:Nat} {vF vU vU' vT:Value} {fs ts:List Value}
theorem MS.keep (h:MS B w S gm gd W H L n tF tT vF vU vT fs ts) (a2:w.heap.size<=w'.heap.size) (hm:w'.heap[gm]?=w.heap[gm]?) (hd:zP B w' gd)
  (hk:∀g ty cs,g<w.heap.size->zd w g ty cs->ty=29\/ty=87->g∉([]:List Nat)->w'.heap[g]?=w.heap[g]?) (I:∀g ty cs,g<S->zd w g ty cs->ty=4\/ty=3->w'.heap[g]?=w.heap[g]?) (hS:S<=S') (O:S'<=w'.heap.size):
  MS B w' S' gm gd W H L n tF tT vF vU vT fs ts:=by
 refine ⟨DT h.hB a2,O,hm.trans h.mz,h.gm0,hd,?_,?_,fun j hj=>?_,fun j hj=>?_⟩
 ·obtain ⟨J,h0 | ⟨g,cap,cur,rfl,G,E,M⟩⟩:=h.F
  ·exact ⟨J,.inl h0⟩
  ·exact ⟨J,.inr ⟨g,cap,cur,rfl,G,(hk g _ cur (zc E) E (.inl rfl) (by simp)).trans E,M⟩⟩
 ·obtain ⟨J,h0 | ⟨g,cap,cur,rfl,G,E,M⟩⟩:=h.T
  ·exact ⟨J,.inl h0⟩
  ·exact ⟨J,.inr ⟨g,cap,cur,rfl,G,(hk g _ cur (zc E) E (.inr rfl) (by simp)).trans E,M⟩⟩
 ·obtain ⟨u,h1,h2⟩:=h.fd j hj;exact ⟨u,h1,h2.keep (fun g cs hg U=>I g _ cs hg U (.inl rfl)) hS⟩
 ·obtain ⟨s,u1,u2,h1,h2,h3,G⟩:=h.td j hj;exact ⟨s,u1,u2,h1,h2,h3,G.keep (fun g cs hg U=>I g _ cs hg U (.inr rfl)) hS⟩
theorem MS.ext (h:MS B w S gm gd W H L n tF tT vF vU vT fs ts) (E:za w w'):MS B w' w'.heap.size gm gd W H L n tF tT vF vU vT fs ts:=
 h.keep E.size (E.block gm (zc h.mz)) (h.dr.ext E h.hB) (fun g _ _ G _ _ _=>E.block g G) (fun g _ _ G _ _=>E.block g (Et G h.hS)) (DT h.hS E.size) (DR _)
theorem MS.extS (h:MS B w S gm gd W H L n tF tT vF vU vT fs ts) (E:za w w'):MS B w' S gm gd W H L n tF tT vF vU vT fs ts:=
 h.keep E.size (E.block gm (zc h.mz)) (h.dr.ext E h.hB) (fun g _ _ G _ _ _=>E.block g G) (fun g _ _ G _ _=>E.block g (Et G h.hS)) (DR _) (DT h.hS E.size)
theorem MS.drawn (h:MS B w S gm gd W H L n tF tT vF vU vT fs ts) (O:zP B w' gd) (I:w.grownBy w' (some gd)):MS B w' S gm gd W H L n tF tT vF vU vT fs ts:=by
 obtain ⟨cs,M⟩:=h.dr.blk
 have G:∀g ty cs',zd w g ty cs'->ty≠118->w'.heap[g]?=w.heap[g]?:=fun g ty cs' E J=>I.block g (zc E) (fun e=>by
  injection e with e;exact zd.ne_ E M J e)
 refine h.keep I.size (G gm _ _ h.mz (by decide)) O (fun g ty cs' _ E ht _=>G g ty cs' E (by rcases ht with rfl | rfl <;> decide)) (fun g ty cs' _ E ht=>G g ty cs' E (by rcases ht with rfl | rfl <;> decide)) (DR _) (DT h.hS I.size)
theorem MS.store (h:MS B w S gm gd W H L n tF tT vF vU vT fs ts) {g k:Nat} {cs:Array Value} (hb:zd w g 4 cs) (a4:B<=g) (b:Bool):MS B (w.setCell ⟨g,k,none⟩ (.bool b)) S gm gd W H L n tF tT vF vU vT fs ts:=by
 have I:∀g' ty cs',zd w g' ty cs'->ty≠4->(w.setCell ⟨g,k,none⟩ (.bool b)).heap[g']?=w.heap[g']?:=fun g' ty cs' E a0=>Ea w ⟨g,k,none⟩ _ g' (zd.ne_ E hb a0)
 have J:(w.setCell ⟨g,k,none⟩ (.bool b)).heap.size=w.heap.size:=by simp [World.setCell]
 refine ⟨by rw [J];exact h.hB,by rw [J];exact h.hS,(I gm _ _ h.mz (by decide)).trans h.mz,h.gm0,?_,?_,?_,fun j U=>?_,fun j U=>?_⟩
 ·obtain ⟨cs',E⟩:=h.dr.blk;obtain ⟨h0,v,k',l,h1,h2,h3⟩:=h.dr;refine ⟨h0,v,k',l,(I gd _ _ E (by decide)).trans h1,?_,h3⟩
  exact h2.keep fun b' a1 a6=>Ea w ⟨g,k,none⟩ _ b' (by
   show b'≠g;omega)
 ·exact zv h.F fun g' G=>by
   obtain ⟨hl,⟨rfl,_⟩ | ⟨g2,cap,cur,rfl,M,O,h6⟩⟩:=h.F
   ·cases G
   ·have:g2=g':=by simpa [Value.ownBlock] using G
    subst this;exact I g2 _ _ O (by decide)
 ·exact zv h.T fun g' G=>by
   obtain ⟨hl,⟨rfl,_⟩ | ⟨g2,cap,cur,rfl,M,O,h6⟩⟩:=h.T
   ·cases G
   ·have:g2=g':=by simpa [Value.ownBlock] using G
    subst this;exact I g2 _ _ O (by decide)
 ·obtain ⟨u,h1,h2⟩:=h.fd j U;exact ⟨u,h1,h2.store _ rfl b⟩
 ·obtain ⟨s,u1,u2,h1,h2,h3,M⟩:=h.td j U;exact ⟨s,u1,u2,h1,h2,h3,M.keep (fun g' cs' _ E=>I g' _ cs' E (by decide)) (DR _)⟩
theorem MS.addT (h:MS B w S gm gd W H L n tF tT vF vU vT fs ts) {s:NetS} {u1 u2:Value} (hd:TaskD w B S n u1 u2) (ho:w5.ownsRow B 87 3 vT' (tT+1) (ts++[.string s,u1,u2])) (hg:(w.alloc o).grownBy w5 vT.ownBlock):
  MS B (w5.setCell ⟨gm,5,none⟩ vT') S gm gd W H L n tF (tT+1) vF vU vT' fs (ts++[.string s,u1,u2])/\
   (∀g ty cs,zd w g ty cs->ty≠87->ty≠32->(w5.setCell ⟨gm,5,none⟩ vT').heap[g]?=w.heap[g]?)/\Below B w (w5.setCell ⟨gm,5,none⟩ vT'):=by
 have h1:∀g ty cs,zd w g ty cs->ty≠87->w5.heap[g]?=w.heap[g]?:=fun g ty cs G J=>(hg.block g (by have:=zc G;simp;omega) (fun e=>zl h.T G (Ne.symm J) e.symm)).trans (Ej _ _ _ (zc G))
 have U:zd w5 gm 32 #[.int .i64 W,.int .i64 H,.int .i64 L,vF,vU,vT]:=(h1 gm _ _ h.mz (by decide)).trans h.mz;have h2:∀g ty cs,zd w g ty cs->ty≠87->ty≠32->(w5.setCell ⟨gm,5,none⟩ vT').heap[g]?=w.heap[g]?:=fun g ty cs G J a1=>(Ea w5 ⟨gm,5,none⟩ _ g (zd.ne_ G h.mz a1)).trans (h1 g ty cs G J)
 have a0:w.heap.size<=(w5.setCell ⟨gm,5,none⟩ vT').heap.size:=by have:=hg.size;simp [World.setCell] at this⊢;omega
 have I:Below B w (w5.setCell ⟨gm,5,none⟩ vT'):=by
  have h3:Below B w (w.alloc o):=(Below.refl B w).alloc h.hB _;have M:Below B w w5:=h3.grown hg (by simp;have:=h.hB;omega) (fun k hk=>(h.T.lt k hk).1);exact M.setCell (p:=⟨gm,5,none⟩) h.gm0 _
 refine ⟨⟨DT h.hB a0,DT h.hS a0,U.set (k:=5) vT',h.gm0,?_,?_,?_,fun j hj=>?_,fun j hj=>?_⟩,h2,I⟩
 ·obtain ⟨cs,G⟩:=h.dr.blk;exact h.dr.keep I (h2 gd _ _ G (by decide) (by decide))
 ·exact zv h.F fun g E=>by
   obtain ⟨hl,⟨e,_⟩ | ⟨g2,cap,cur,e,M,h5,h6⟩⟩:=h.F
   ·rw [e] at E;cases E
   ·rw [e] at E;have:g2=g:=by simpa [Value.ownBlock] using E
    subst this;exact h2 g2 _ _ h5 (by decide) (by decide)
 ·exact zv ho fun g E=>Ea w5 ⟨gm,5,none⟩ _ g (fun e=>by
   have e':g=gm:=e;subst e';exact zl ho U (by decide) E)
 ·obtain ⟨u,h3,M⟩:=h.fd j hj;exact ⟨u,h3,M.keep (fun g cs _ G=>h2 g _ cs G (by decide) (by decide)) (DR _)⟩
 ·have a7:ts.length=tT*3:=h.T.1;have O:∀{a b:Value},TaskD w B S n a b->TaskD (w5.setCell ⟨gm,5,none⟩ vT') B S n a b:=fun hh=>hh.keep (fun g cs _ G=>h2 g _ cs G (by decide) (by decide)) (DR _)
  rcases En j tT with hj2 | hj2
  ·obtain ⟨s',a,b,h3,M,h5,h6⟩:=h.td j hj2;exact ⟨s',a,b,by rw [DW (by omega)];exact h3,by rw [DW (by omega)];exact M,by rw [DW (by omega)];exact h5,O h6⟩
  ·have a4:j=tT:=by omega
   subst a4;refine ⟨s,u1,u2,?_,?_,?_,O hd⟩
   ·rw [DX (by omega),show j*3 - ts.length=0 from by omega];rfl
   ·rw [DX (by omega),show j*3+1 - ts.length=1 from by omega];rfl
   ·rw [DX (by omega),show j*3+2 - ts.length=2 from by omega];rfl
theorem MS.addF (h:MS B w S gm gd W H L n tF tT vF vU vT fs ts) {u:Value} (hd:BoolD w B S n u) (ho:w5.ownsRow B 29 1 vF' (tF+1) (fs++[u])) (hg:(w.alloc o).grownBy w5 vF.ownBlock):
  MS B (w5.setCell ⟨gm,3,none⟩ vF') S gm gd W H L n (tF+1) tT vF' vU vT (fs++[u]) ts/\Below B w (w5.setCell ⟨gm,3,none⟩ vF'):=by
 have h1:∀g ty cs,zd w g ty cs->ty≠29->w5.heap[g]?=w.heap[g]?:=fun g ty cs G J=>(hg.block g (by have:=zc G;simp;omega) (fun e=>zl h.F G (Ne.symm J) e.symm)).trans (Ej _ _ _ (zc G))
 have U:zd w5 gm 32 #[.int .i64 W,.int .i64 H,.int .i64 L,vF,vU,vT]:=(h1 gm _ _ h.mz (by decide)).trans h.mz;have h2:∀g ty cs,zd w g ty cs->ty≠29->ty≠32->(w5.setCell ⟨gm,3,none⟩ vF').heap[g]?=w.heap[g]?:=fun g ty cs G J a1=>(Ea w5 ⟨gm,3,none⟩ _ g (zd.ne_ G h.mz a1)).trans (h1 g ty cs G J)
 have a0:w.heap.size<=(w5.setCell ⟨gm,3,none⟩ vF').heap.size:=by have:=hg.size;simp [World.setCell] at this⊢;omega
 have I:Below B w (w5.setCell ⟨gm,3,none⟩ vF'):=by
  have h3:Below B w (w.alloc o):=(Below.refl B w).alloc h.hB _;have M:Below B w w5:=h3.grown hg (by simp;have:=h.hB;omega) (fun k hk=>(h.F.lt k hk).1);exact M.setCell (p:=⟨gm,3,none⟩) h.gm0 _
 refine ⟨⟨DT h.hB a0,DT h.hS a0,U.set (k:=3) vF',h.gm0,?_,?_,?_,fun j hj=>?_,fun j hj=>?_⟩,I⟩
 ·obtain ⟨cs,G⟩:=h.dr.blk;exact h.dr.keep I (h2 gd _ _ G (by decide) (by decide))
 ·exact zv ho fun g E=>Ea w5 ⟨gm,3,none⟩ _ g (fun e=>by
   have e':g=gm:=e;subst e';exact zl ho U (by decide) E)
 ·exact zv h.T fun g E=>by
   obtain ⟨hl,⟨e,_⟩ | ⟨g2,cap,cur,e,M,h5,h6⟩⟩:=h.T
   ·rw [e] at E;cases E
   ·rw [e] at E;have:g2=g:=by simpa [Value.ownBlock] using E
    subst this;exact h2 g2 _ _ h5 (by decide) (by decide)
 ·have a7:fs.length=tF:=by have:=h.F.1;omega
  have O:∀{a:Value},BoolD w B S n a->BoolD (w5.setCell ⟨gm,3,none⟩ vF') B S n a:=fun hh=>hh.keep (fun g cs _ G=>h2 g _ cs G (by decide) (by decide)) (DR _)
  rcases En j tF with hj2 | hj2
  ·obtain ⟨a,h3,M⟩:=h.fd j hj2;exact ⟨a,by rw [DW (by omega)];exact h3,O M⟩
  ·have a4:j=tF:=by omega
   subst a4;exact ⟨u,by rw [DX (by omega),show j - fs.length=0 from by omega];rfl,O hd⟩
 ·obtain ⟨s,u1,u2,h3,M,h5,h6⟩:=h.td j hj;exact ⟨s,u1,u2,h3,M,h5,h6.keep (fun g cs _ G=>h2 g _ cs G (by decide) (by decide)) (DR _)⟩
theorem MS.addU (h:MS B w S gm gd W H L n tF tT vF vU vT fs ts) {x:Bool} {us:List Bool} (b0:B<=S) (hu:OwnB w S vU us) (ho:w5.ownsRow S 4 1 vU' (us.length+1) (us.map Value.bool++[.bool x])) (hg:(w.alloc o).grownBy w5 vU.ownBlock):
  MS B (w5.setCell ⟨gm,4,none⟩ vU') S gm gd W H L n tF tT vF vU' vT fs ts/\OwnB (w5.setCell ⟨gm,4,none⟩ vU') S vU' (us++[x])/\Below B w (w5.setCell ⟨gm,4,none⟩ vU'):=by
 have h1:∀g ty cs,zd w g ty cs->ty≠4\/g<S->w5.heap[g]?=w.heap[g]?:=fun g ty cs G hty=>(hg.block g (by have:=zc G;simp;omega) (fun e=>by
  rcases hty with hty | hty
  ·exact zl hu G (Ne.symm hty) e.symm
  ·have:=(World.ownsRow.lt hu g e.symm).1;omega)).trans (Ej _ _ _ (zc G))
 have O:zd w5 gm 32 #[.int .i64 W,.int .i64 H,.int .i64 L,vF,vU,vT]:=(h1 gm _ _ h.mz (.inl (by decide))).trans h.mz;have h2:∀g ty cs,zd w g ty cs->ty≠4\/g<S->ty≠32->(w5.setCell ⟨gm,4,none⟩ vU').heap[g]?=w.heap[g]?:=fun g ty cs G hty a0=>(Ea w5 ⟨gm,4,none⟩ _ g (zd.ne_ G h.mz a0)).trans (h1 g ty cs G hty)
 have U:w.heap.size<=(w5.setCell ⟨gm,4,none⟩ vU').heap.size:=by have:=hg.size;simp [World.setCell] at this⊢;omega
 have I:Below B w (w5.setCell ⟨gm,4,none⟩ vU'):=by
  have h3:Below B w (w.alloc o):=(Below.refl B w).alloc h.hB _;have M:Below B w w5:=h3.grown hg (by simp;have:=h.hB;omega) (fun k hk=>by have:=(World.ownsRow.lt hu k hk).1;omega);exact M.setCell (p:=⟨gm,4,none⟩) h.gm0 _
 have J:∀{e:TypeId} {sz k:Nat} {v:Value} {xs:List Value},w.ownsRow B e sz v k xs->e≠4->e≠32->(w5.setCell ⟨gm,4,none⟩ vU').ownsRow B e sz v k xs:=fun hr he a2=>zv hr fun g E=>by
  obtain ⟨hl,⟨e,_⟩ | ⟨g2,cap,cur,e,M,h5,h6⟩⟩:=hr
  ·rw [e] at E;cases E
  ·rw [e] at E;have:g2=g:=by simpa [Value.ownBlock] using E
   subst this;exact h2 g2 _ _ h5 (.inl he) a2
 refine ⟨⟨DT h.hB U,DT h.hS U,O.set (k:=4) vU',h.gm0,?_,J h.F (by decide) (by decide),J h.T (by decide) (by decide),fun j hj=>?_,fun j hj=>?_⟩,?_,I⟩
 ·obtain ⟨cs,G⟩:=h.dr.blk;exact h.dr.keep I (h2 gd _ _ G (.inl (by decide)) (by decide))
 ·obtain ⟨u,h3,M⟩:=h.fd j hj;exact ⟨u,h3,M.keep (fun g cs a4 G=>h2 g _ cs G (.inr a4) (by decide)) (DR _)⟩
 ·obtain ⟨s,u1,u2,h3,M,h5,h6⟩:=h.td j hj;exact ⟨s,u1,u2,h3,M,h5,h6.keep (fun g cs _ G=>h2 g _ cs G (.inl (by decide)) (by decide)) (DR _)⟩
 ·unfold OwnB;rw [DZ,Er,EI]
  exact zv ho fun g E=>Ea w5 ⟨gm,4,none⟩ _ g (fun e=>by
   have e':g=gm:=e;subst e';exact zl ho O (by decide) E)
end
structure R1 (B:Nat) (w:World) (S ge gt n:Nat) (s:NetS) (u1 u2:Value) (l1 l2:List Int):Prop where
 hB:B<=S
 hS:S<=w.heap.size
 dr:zP B w ge
 hge:S<=ge
 tk:zd w gt 87 #[.string s,u1,u2]
 hgt:S<=gt
 o1:zB w S u1 l1
 o2:zB w S u2 l2
 ne:u1.ownBlock=none\/u1.ownBlock≠u2.ownBlock
 e1:l1≠[]
 e2:l2≠[]
 rg:∀x,x∈l1\/x∈l2->0<=x/\x<(n:Int)
section
variable {B:Nat} {w w':World} {S ge gt n:Nat} {s:NetS} {u1 u2:Value} {l1 l2:List Int}
theorem R1.keep (h:R1 B w S ge gt n s u1 u2 l1 l2) (I:Below B w w') (G:∀g ty cs,zd w g ty cs->ty=118\/ty=87\/ty=3->w'.heap[g]?=w.heap[g]?):R1 B w' S ge gt n s u1 u2 l1 l2:=by
 obtain ⟨cs,E⟩:=h.dr.blk;exact ⟨h.hB,DT h.hS I.size,h.dr.keep I (G ge _ _ E (.inl rfl)),h.hge,(G gt _ _ h.tk (.inr (.inl rfl))).trans h.tk,h.hgt,BB h.o1 (fun g cs _ E=>G g _ cs E (.inr (.inr rfl))),BB h.o2 (fun g cs _ E=>G g _ cs E (.inr (.inr rfl))),h.ne,h.e1,h.e2,h.rg⟩
theorem R1.ext (h:R1 B w S ge gt n s u1 u2 l1 l2) (E:za w w'):R1 B w' S ge gt n s u1 u2 l1 l2:=
 h.keep (E.mono (DT h.hB h.hS)) (fun g _ _ G _=>E.block g (zc G))
theorem R1.drawn (h:R1 B w S ge gt n s u1 u2 l1 l2) (O:zP B w' ge) (M:w.grownBy w' (some ge)):R1 B w' S ge gt n s u1 u2 l1 l2:=by
 obtain ⟨cs,G⟩:=h.dr.blk
 have E:∀g ty cs',zd w g ty cs'->ty≠118->w'.heap[g]?=w.heap[g]?:=fun g ty cs' I J=>M.block g (zc I) (fun e=>by
  injection e with e;exact zd.ne_ I G J e)
 exact ⟨h.hB,DT h.hS M.size,O,h.hge,(E gt _ _ h.tk (by decide)).trans h.tk,h.hgt,BB h.o1 (fun g cs _ G=>E g _ cs G (by decide)),BB h.o2 (fun g cs _ G=>E g _ cs G (by decide)),h.ne,h.e1,h.e2,h.rg⟩
theorem R1.drawnExt {wR:World} (h:R1 B w wR.heap.size ge gt n s u1 u2 l1 l2) (E:za wR w) (I:w.grownBy w' (some ge)):za wR w':=
 Below.grown E I E.size (fun k G=>by injection G with G;have:=h.hge;omega)
theorem R1.add1 (h:R1 B w S ge gt n s u1 u2 l1 l2) {u1':Value} {x:Int} (hx:0<=x/\x<(n:Int)) (ho:w5.ownsRow S 3 1 u1' (l1.length+1) (l1.map (Value.int .i64)++[.int .i64 x])) (U:(w.alloc o).grownBy w5 u1.ownBlock)
  (hv:u1'.ownBlock=u1.ownBlock\/u1'.ownBlock=some (w.heap.size+1)):R1 B (w5.setCell ⟨gt,1,none⟩ u1') S ge gt n s u1' u2 (l1++[x]) l2/\Below S w (w5.setCell ⟨gt,1,none⟩ u1'):=by
 obtain ⟨cs,E⟩:=h.dr.blk;have h1:∀g ty cs,zd w g ty cs->u1.ownBlock≠some g->w5.heap[g]?=w.heap[g]?:=fun g ty cs E J=>(U.block g (by have:=zc E;simp;omega) (fun e=>J e.symm)).trans (Ej _ _ _ (zc E))
 have M:zd w5 gt 87 #[.string s,u1,u2]:=(h1 gt _ _ h.tk (zl h.o1 h.tk (by decide))).trans h.tk;have h2:∀g ty cs,zd w g ty cs->u1.ownBlock≠some g->ty≠87->(w5.setCell ⟨gt,1,none⟩ u1').heap[g]?=w.heap[g]?:=fun g ty cs E J a2=>(Ea w5 ⟨gt,1,none⟩ _ g (zd.ne_ E h.tk a2)).trans (h1 g ty cs E J)
 have a1:w.heap.size<=(w5.setCell ⟨gt,1,none⟩ u1').heap.size:=by have:=U.size;simp [World.setCell] at this⊢;omega
 have G:Below S w (w5.setCell ⟨gt,1,none⟩ u1'):=by
  have h3:Below S w (w.alloc o):=(Below.refl S w).alloc h.hS _;have h4:Below S w w5:=h3.grown U (by simp;have:=h.hS;omega) (fun k hk=>(World.ownsRow.lt h.o1 k hk).1);exact h4.setCell (p:=⟨gt,1,none⟩) h.hgt _
 refine ⟨⟨h.hB,DT h.hS a1,h.dr.keep (G.mono h.hB) (h2 ge _ _ E (zl h.o1 E (by decide)) (by decide)),h.hge,M.set (k:=1) u1',h.hgt,?_,?_,?_,by simp,h.e2,?_⟩,G⟩
 ·show World.ownsRow _ _ _ _ _ (l1++[x]).length _;rw [DZ,Er,EI]
  exact zv ho fun g I=>Ea w5 ⟨gt,1,none⟩ _ g (fun e=>by
   have e':g=gt:=e;subst e';exact zl ho M (by decide) I)
 ·exact BB h.o2 (fun g cs I O=>h2 g _ cs O (fun e=>by
   rcases h.ne with hn | hn
   ·rw [hn] at e;cases e
   ·exact hn (e.trans I.symm)) (by decide))
 ·right
  rcases hv with hv | hv
  ·rw [hv];rcases h.ne with hn | hn
   ·rw [hn] at hv;obtain ⟨g,c,e,_,_⟩:=World.ownsRow.form ho (by omega);rw [e] at hv;cases hv
   ·exact hn
  ·rw [hv];intro e;have:=(World.ownsRow.lt h.o2 _ e.symm).2;omega
 ·intro y hy;rcases hy with hy | hy
  ·rcases EH.1 hy with hy | hy
   ·exact h.rg y (.inl hy)
   ·rw [Ey] at hy;rw [hy];exact hx
  ·exact h.rg y (.inr hy)
theorem R1.add2 (h:R1 B w S ge gt n s u1 u2 l1 l2) {u2':Value} {x:Int} (hx:0<=x/\x<(n:Int)) (ho:w5.ownsRow S 3 1 u2' (l2.length+1) (l2.map (Value.int .i64)++[.int .i64 x])) (U:(w.alloc o).grownBy w5 u2.ownBlock)
  (hv:u2'.ownBlock=u2.ownBlock\/u2'.ownBlock=some (w.heap.size+1)):R1 B (w5.setCell ⟨gt,2,none⟩ u2') S ge gt n s u1 u2' l1 (l2++[x])/\Below S w (w5.setCell ⟨gt,2,none⟩ u2'):=by
 obtain ⟨cs,G⟩:=h.dr.blk;have h1:∀g ty cs,zd w g ty cs->u2.ownBlock≠some g->w5.heap[g]?=w.heap[g]?:=fun g ty cs G J=>(U.block g (by have:=zc G;simp;omega) (fun e=>J e.symm)).trans (Ej _ _ _ (zc G))
 have M:zd w5 gt 87 #[.string s,u1,u2]:=(h1 gt _ _ h.tk (zl h.o2 h.tk (by decide))).trans h.tk;have h2:∀g ty cs,zd w g ty cs->u2.ownBlock≠some g->ty≠87->(w5.setCell ⟨gt,2,none⟩ u2').heap[g]?=w.heap[g]?:=fun g ty cs G J a1=>(Ea w5 ⟨gt,2,none⟩ _ g (zd.ne_ G h.tk a1)).trans (h1 g ty cs G J)
 have a0:w.heap.size<=(w5.setCell ⟨gt,2,none⟩ u2').heap.size:=by have:=U.size;simp [World.setCell] at this⊢;omega
 have I:Below S w (w5.setCell ⟨gt,2,none⟩ u2'):=by
  have h3:Below S w (w.alloc o):=(Below.refl S w).alloc h.hS _;have h4:Below S w w5:=h3.grown U (by simp;have:=h.hS;omega) (fun k hk=>(World.ownsRow.lt h.o2 k hk).1);exact h4.setCell (p:=⟨gt,2,none⟩) h.hgt _
 refine ⟨⟨h.hB,DT h.hS a0,h.dr.keep (I.mono h.hB) (h2 ge _ _ G (zl h.o2 G (by decide)) (by decide)),h.hge,M.set (k:=2) u2',h.hgt,?_,?_,?_,h.e1,by simp,?_⟩,I⟩
 ·exact BB h.o1 (fun g cs E O=>h2 g _ cs O (fun e=>by
   rcases h.ne with hn | hn
   ·rw [hn] at E;cases E
   ·exact hn (E.trans e.symm)) (by decide))
 ·show World.ownsRow _ _ _ _ _ (l2++[x]).length _;rw [DZ,Er,EI]
  exact zv ho fun g E=>Ea w5 ⟨gt,2,none⟩ _ g (fun e=>by
   have e':g=gt:=e;subst e';exact zl ho M (by decide) E)
 ·rcases hv with hv | hv
  ·rw [hv];exact h.ne
  ·by_cases h0:u1.ownBlock=none
   ·exact .inl h0
   ·right
    rw [hv];intro e;have:=(World.ownsRow.lt h.o1 _ e).2;omega
 ·intro y hy;rcases hy with hy | hy
  ·exact h.rg y (.inl hy)
  ·rcases EH.1 hy with hy | hy
   ·exact h.rg y (.inr hy)
   ·rw [Ey] at hy;rw [hy];exact hx
theorem R1.taskD (h:R1 B w S ge gt n s u1 u2 l1 l2) (k1:l1.length<=2) (k2:l2.length<=2):TaskD w B w.heap.size n u1 u2:=
 ⟨l1,l2,World.ownsRow.mono h.o1 h.hB,World.ownsRow.mono h.o2 h.hB,⟨h.e1,h.e2⟩,⟨k1,k2⟩,h.rg,fun g hg=>by
  rcases hg with hg | hg
  ·exact (World.ownsRow.lt h.o1 g hg).2
  ·exact (World.ownsRow.lt h.o2 g hg).2⟩
end
theorem OwnB.app {S:Nat} {v':Value} {l:List Bool} {x:Bool} (E:w5.ownsRow S 4 1 v' (l.length+1) (l.map Value.bool++[.bool x])):OwnB w5 S v' (l++[x]):=by
 unfold OwnB;rw [DZ,Er,EI];exact E
theorem R1.grownB {B:Nat} {w:World} {S S2 ge gt n:Nat} {s:NetS} {u1 u2 v:Value} {l1 l2:List Int} {l:List Bool} (h:R1 B w S ge gt n s u1 u2 l1 l2) (M:OwnB w S2 v l) (O:S<=S2) (J:(w.alloc o).grownBy w5 v.ownBlock):R1 B w5 S ge gt n s u1 u2 l1 l2/\Below S w w5:=by
 have E:Below S w w5:=by
  have h3:Below S w (w.alloc o):=(Below.refl S w).alloc h.hS _;exact h3.grown J (by simp;have:=h.hS;omega) (fun k U=>DT O (World.ownsRow.lt M k U).1)
 refine ⟨h.keep (E.mono h.hB) fun g ty cs G I=>?_,E⟩;exact (J.block g (by have:=zc G;simp;omega) (fun e=>zl M G (by rcases I with rfl | rfl | rfl <;> decide) e.symm)).trans (Ej _ _ _ (zc G))
theorem cells3n (w:World) (a b c:Value) (t:TypeId):∀j u,[a,b,c][j]?=some u->(w.alloc (.cells #[a,b,c] t)).cell? ((⟨w.heap.size,0,none⟩:Addr).add j)=some u:=by
 intro j u E;have G:zd (w.alloc (.cells #[a,b,c] t)) w.heap.size t #[a,b,c]:=zd.new _ _ _ rfl
 match j,E with
 | 0,E=>exact G.cell (k:=0) E
 | 1,E=>exact G.cell (k:=1) E
 | 2,E=>exact G.cell (k:=2) E
section
variable {B:Nat} {w:World} {S S2 gm gd ge gt:Nat} {W H L:Int} {n t:Nat} {vF vU vT vf:Value} {fs ts:List Value} {s:NetS} {u1 u2:Value} {l1 l2:List Int} {lf:List Bool}
theorem MS.end1 (h:MS B w w.heap.size gm gd W H L n t t vF vU vT fs ts) (O:R1 B w S ge gt n s u1 u2 l1 l2) (k1:l1.length<=2) (k2:l2.length<=2) (G:OwnB w S2 vf lf) {w9:World} (M:w9.ownsRow B 87 3 vT' (t+1) (ts++[.string s,u1,u2])) (J:(w.alloc o).grownBy w9 vT.ownBlock):
  MS B (w9.setCell ⟨gm,5,none⟩ vT') w.heap.size gm gd W H L n t (t+1) vF vU vT' fs (ts++[.string s,u1,u2])/\OwnB (w9.setCell ⟨gm,5,none⟩ vT') S2 vf lf/\Below B w (w9.setCell ⟨gm,5,none⟩ vT'):=by
 obtain ⟨h1,h2,h3⟩:=h.addT (O.taskD k1 k2) M J;refine ⟨h1,zv G fun g E=>?_,h3⟩;obtain ⟨hl,⟨e,_⟩ | ⟨g2,cap,cur,e,U,I,h6⟩⟩:=G
 ·rw [e] at E;cases E
 ·rw [e] at E;have:g2=g:=by simpa [Value.ownBlock] using E
  subst this;exact h2 g2 _ _ I (by decide) (by decide)
theorem MS.end2 (h:MS B w S gm gd W H L n t (t+1) vF vU vT fs ts) (J:OwnB w S2 vf lf) (E:lf.length=n) (G:B<=S2) (I:∀g,vf.ownBlock=some g->g<S) {w9:World} (O:w9.ownsRow B 29 1 vF' (t+1) (fs++[vf])) (M:(w.alloc o).grownBy w9 vF.ownBlock):
  MS B (w9.setCell ⟨gm,3,none⟩ vF') (w9.setCell ⟨gm,3,none⟩ vF').heap.size gm gd W H L n (t+1) (t+1) vF' vU vT (fs++[vf]) ts/\Below B w (w9.setCell ⟨gm,3,none⟩ vF'):=by
 obtain ⟨h1,h2⟩:=h.addF ⟨lf,World.ownsRow.mono J G,E,I⟩ O M;exact ⟨h1.ext (za.refl _),h2⟩
theorem MS.c5 (h:MS B w S gm gd W H L n t (t+1) vF vU vT fs ts):w.cell? ⟨gm,3,none⟩=some vF:=h.mz.cell (k:=3) rfl
end
theorem hasB {w:World} {B:Nat} {u:Value} (k:Int) (o:zB w B u l) (G:l.length<=1000):∃b,∀W,za w W->Calls Tryz.prog 73 #[u,.int .i64 k] W fun e w'=>e=.returned (.bool b)/\W=w':=
 ⟨_,fun W E=>zL k W (zk.below (Ae.of_own o) E) (by omega)⟩
theorem own_blkB {w:World} {B n g c:Nat} {e:TypeId} (h:w.ownsRow B e sz (.slice (some ⟨g,0,none⟩) n c) n xs):∃cs,zd w g e cs:=by
 obtain ⟨_,⟨e,_⟩ | ⟨g2,cap,cur,e,_,E,_⟩⟩:=h
 ·cases e
 ·injection e with e _ _;injection e with e;injection e with e;subst e;exact ⟨cur,E⟩
theorem MS.stored {B:Nat} {w1 w:World} {S gm gd g k:Nat} {W H L:Int} {n tF tT:Nat} {vF vU vT:Value} {fs ts:List Value} (h:MS B w S gm gd W H L n tF tT vF vU vT fs ts) (I:za w1 w) (M:B=w1.heap.size) (E:∃cs,zd w g 4 cs) (J:B<=g) (b:Bool):
  MS B (w.drew.setCell ⟨g,k,none⟩ (.bool b)) (w.drew.setCell ⟨g,k,none⟩ (.bool b)).heap.size gm gd W H L n tF tT vF vU vT fs ts/\za w1 (w.drew.setCell ⟨g,k,none⟩ (.bool b)):=by
 obtain ⟨cs,E⟩:=E;have h1:=h.extS ((za.refl w).drew);have G:zd w.drew g 4 cs:=E;have h2:=h1.store (k:=k) G J b;exact ⟨h2.ext (za.refl _),I.drew.setCell (p:=⟨g,k,none⟩) (by show w1.heap.size<=g;omega) _⟩
structure ElemI (t e:TypeId) (z:Value) (sz bytes:Nat):Prop where
 ht:Tryz.prog.underlying t=some (.slice e)
 hi:(Tryz.prog.info? e).map (fun i=>(i.zero,i.size,i.bytes))=some (some z,sz,bytes)
 hz:z.cells.size=sz
 h0:0<sz
theorem Du (w:World) (base:Nat) (t ty e:TypeId) (z:Value) (sz bytes:Nat) (I:ElemI t e z sz bytes)
  (v:Value) (n:Nat) (xs:List Value) (M:w.ownsRow base e sz v n xs) (u:Value) (m:Nat) (news:List Value) (hu:Ae w ok sz u m news) (h1:∀u∈news,u.oneCell'=true)
  (a0:n+m<=maxLen) (G:(n+m)*bytes<=140737488355328) (O:base<=w.heap.size):
  ∃v' w',(Builtin.append_ #[t,t] ty #[v,u]).run Tryz.prog w=.ok v' w'/\w'.ownsRow base e sz v' (n+m) (xs++news)/\w.grownBy w' v.ownBlock/\(v'.ownBlock=v.ownBlock\/v'.ownBlock=some w.heap.size):=by
 obtain ⟨i,hi,hz,E,a1⟩:=info_parts I.hi;have ht:=I.ht;have a2:=I.hz;have U:=I.h0;obtain ⟨A,c,rfl,hc,hl,J⟩:=hu;rcases A with _ | a
 ·have hm:m=0:=by
   rcases EC m with h | h
   ·exact h
   ·obtain ⟨b,off,e,_⟩:=J h;cases e
  subst hm;have hn:news=[]:=Ei (by simpa using hl);subst hn;refine ⟨v,w,?_,by simpa using M,⟨rfl,rfl,rfl,DR _,fun _ _ _=>rfl⟩,.inl rfl⟩;rcases M.2 with ⟨rfl,rfl⟩ | ⟨g,cap,cur,rfl,b1,hg,b5,b2,b3,a8⟩
  ·simp [Builtin.append_,run_underlying ht,sizeOf,typeInfo,hi,E,Builtin.lenOf,Builtin.firstCells,loadCells,loadCellsFrom]
  ·have h:=run_append_room_src (P:=Tryz.prog) w t t ty e i ht hi g 0 n cap (.slice none 0 c) 0 [] (by rw [E];exact Src.ofNil w ht c) (by omega) (by simp) (by simp);rw [Dq] at h;simpa using h
 ·rcases EC m with h0 | hmp
  ·subst h0;have hn:news=[]:=Ei (by simpa using hl);subst hn;obtain ⟨v',w',h1,h2,h3,h4,h5⟩:=run_append_own_at (P:=Tryz.prog) w base t ty e i z sz bytes ht hi hz E a1 a2 U v n xs M a 0 c [] (by simp) (by simp) (by simp) a0 G O;exact ⟨v',w',h1,h2,h3,h5⟩
  ·obtain ⟨b,off,he,_,a5⟩:=J hmp;injection he with he;subst he;obtain ⟨v',w',h1,h2,h3,h4,h5⟩:=run_append_own_at (P:=Tryz.prog) w base t ty e i z sz bytes ht hi hz E a1 a2 U v n xs M ⟨b,off,none⟩ m c news hl (fun j u hj=>by rw [Addr.add_lit];exact a5 j u hj) h1 a0 G O;exact ⟨v',w',h1,h2,h3,h5⟩
theorem wp_append_row {o:Oper} (W:World) (s x:Operand) {t e:TypeId} (I:ElemI t e z sz bytes)
  (U:o.op=.call { callee:=.builtin .append,args:=#[s,x],argTypes:=#[t,t] }) (base n m:Nat) (l l2:List Value) (v u:Value) (hs:a.eval s=v) (hx:a.eval x=u)
  (G:W.ownsRow base e sz v n l) (hu:Ae W ok sz u m l2) (h1:∀u∈l2,u.oneCell'=true) (E:base<=W.heap.size) (J:n+m<=maxLen) (O:(n+m)*bytes<=140737488355328)
  (h:∀v' w',w'.ownsRow base e sz v' (n+m) (l++l2)->W.grownBy w' v.ownBlock->(v'.ownBlock=v.ownBlock\/v'.ownBlock=some W.heap.size)->K (a.put o.dst v') w'):Oper.wp Tryz.prog o a W K Q:=by
 obtain ⟨v',w',hr,h2,h3,M⟩:=Du (ok:=ok) W base t o.type e z sz bytes I v n l G u m l2 hu h1 J O E;unfold Oper.wp execOp;simp only [U,resolve,invoke,builtin,Sem.run_bind,Sem.run_pure,Result.andThen_ok,List.map_toArray,List.map_cons,List.map_nil,hs,hx,hr];exact h v' w' h2 h3 M
theorem By {rest:List Oper} {o:Oper} (M:o.guard=none) (W:World) (s x:Operand) {t e:TypeId} (I:ElemI t e z sz bytes)
  (ho:o.op=.call { callee:=.builtin .append,args:=#[s,x],argTypes:=#[t,t] }) (base n m:Nat) (l l2:List Value) (v u:Value) (hs:a.eval s=v) (hx:a.eval x=u)
  (G:W.ownsRow base e sz v n l) (hu:Ae W ok sz u m l2) (h1:∀u∈l2,u.oneCell'=true) (E:base<=W.heap.size) (J:n+m<=maxLen) (U:(n+m)*bytes<=140737488355328)
  (h:∀v' w',w'.ownsRow base e sz v' (n+m) (l++l2)->W.grownBy w' v.ownBlock->(v'.ownBlock=v.ownBlock\/v'.ownBlock=some W.heap.size)->wpList Tryz.prog ops Q rest (a.put o.dst v') w'):wpList Tryz.prog ops Q (o :: rest) a W:=by
 refine wpList_plain M fun K O=>?_
 exact wp_append_row W s x I ho base n m l l2 v u hs hx G hu h1 E J U fun v' w' h1 h2 h3=>O _ _ (h v' w' h1 h2 h3)
theorem zW {o:Oper} {E:Prop} (O:o.guard=none) (W:World) (s x:Operand) {t e:TypeId} (I:ElemI t e z sz bytes)
  (ho:o.op=.call { callee:=.builtin .append,args:=#[s,x],argTypes:=#[t,t] }) (base n m:Nat) (l l2:List Value) (v u:Value) (hs:a.eval s=v) (hx:a.eval x=u)
  (J:W.ownsRow base e sz v n l) (hu:Ae W ok sz u m l2) (h1:∀u∈l2,u.oneCell'=true) (G:base<=W.heap.size) (M:n+m<=maxLen) (U:(n+m)*bytes<=140737488355328)
  (h:∀v' w',w'.ownsRow base e sz v' (n+m) (l++l2)->W.grownBy w' v.ownBlock->(v'.ownBlock=v.ownBlock\/v'.ownBlock=some W.heap.size)->K (a.put o.dst v') w'):
  if Region.wanted o (yielded ops a.tmps)=true then Oper.wp Tryz.prog o a W K Q else E:=by
 have hw:Region.wanted o (yielded ops a.tmps)=true:=by simp [Region.wanted,O]
 rw [if_pos hw];exact wp_append_row W s x I ho base n m l l2 v u hs hx J hu h1 G M U h
theorem eBools:ElemI 28 29 (.slice none 0 0) 1 24:=⟨Tryz.underlying28,Tryz.infoBools,rfl,by decide⟩
theorem eInt:ElemI 23 3 (.int .i64 0) 1 8:=⟨Tryz.underlying23,Tryz.infoInt,rfl,by decide⟩
theorem own_emptyT (W:World) (B:Nat) (e:TypeId) (sz:Nat) (E:B<=W.heap.size):(W.alloc (.cells #[] e)).ownsRow B e sz (.slice (some ⟨W.heap.size,0,none⟩) 0 0) 0 []:=
 ⟨by simp,.inr ⟨W.heap.size,0,#[],rfl,E,EE W _,DR _,by decide,by simp,by simp⟩⟩
end
section
open Go.RowKit
attribute [local go_sem ↓] Go.wp_at_zero Go.wp_at_succ
theorem own_kept31 {wr w':World} {B n:Nat} {e:TypeId} {v:Value} {r:Option Nat} (h:wr.ownsRow B e sz v n xs) (M:wr.grownBy w' r) (O:∀b,r=some b->∃t cs,zd wr b t cs/\t≠e):w'.ownsRow B e sz v n xs:=by
 refine h.kept M ?_;rcases h.2 with ⟨rfl,-⟩ | ⟨g,cap,cur,rfl,-,hh,-⟩
 ·exact .inl rfl
 ·right
  intro J;obtain ⟨t,cs,I,G⟩:=O g J.symm;have E:wr.heap[g]?=_:=I;rw [hh] at E;injection E with E;injection E with _ e2 _;exact G e2.symm
end
section
open Go.RowKit Go.Shelf Go.Sort
attribute [local go_sem ↓] Go.wp_at_zero Go.wp_at_succ
def dfLA_ren:Go.Shelf.Ren:=⟨fun | 10=>184 | 6=>220 | n=>n,fun | 22=>22 | 23=>23 | 25=>157 | 3=>3 | 4=>4 | 0=>0 | n=>n,fun | n=>n⟩
theorem dfLA:Go.Proofs.SlLaysH.n10 Tryz.prog dfLA_ren:={
 mixed:=by kernel_rfl
 f6:=⟨Tryz.f220.name,by decide,Tryz.func220.trans (congrArg some (by kernel_rfl))⟩
 f10:=⟨Tryz.f184.name,by decide,Tryz.func184.trans (congrArg some (by kernel_rfl))⟩
 t0:=Tryz.underlying0
 a0:=Tryz.isAgg0
 z0:=Tryz.sizeOf0
 v0:=Tryz.zeroValue0
 t3:=Tryz.underlying3
 a3:=Tryz.isAgg3
 z3:=Tryz.sizeOf3
 v3:=Tryz.zeroValue3
 t4:=Tryz.underlying4
 a4:=Tryz.isAgg4
 z4:=Tryz.sizeOf4
 v4:=Tryz.zeroValue4
 t22:=Tryz.underlying22
 a22:=Tryz.isAgg22
 z22:=Tryz.sizeOf22
 v22:=Tryz.zeroValue22
 a23:=Tryz.isAgg23
 z23:=Tryz.sizeOf23
 t25:=Tryz.underlying157
 a25:=Tryz.isAgg157
 z25:=Tryz.sizeOf157
 v25:=Tryz.zeroValue157 }
abbrev SlV:={ v:Value // ∃A n c,v=.slice A n c }
def slLen (v:Value):Nat:=match v with | .slice _ n _=>n | _=>0
theorem holds_sl {w:World} {B g:Nat} {l:List SlV} [Inhabited SlV] (h:BN w B (.slice (some ⟨g,0,none⟩) (l.map (·.1)).length cap) (l.map (·.1))):Holds (fun x:SlV=>x.1) w g 0 l.toArray:=by
 intro j G;have E:j<l.length:=by simpa using G
 refine ⟨?_,by have:=World.ownsRow.frozenAt h j;simpa using this⟩;have:=World.ownsRow.cellAt h j (by simpa using E);rw [Nat.zero_add,this];simp [getElem!_pos,E]
theorem cf75 (a:Array Value) (w:World):(callFunc 186 a).run Tryz.prog w=.ok (.enter 186 a) w:=AW Tryz.func186 (by kernel_rfl) (by kernel_rfl) a w
theorem paths1_sl (x:SlV) (w:World):Calls Tryz.prog 186 (#[x.1]++#[]) w fun e w'=>e=.returned (.bool (decide (slLen x.1=0)))/\w=w':=by
 obtain ⟨_,A,n,c,rfl⟩:=x;show Calls Tryz.prog 186 #[.slice A n c] w _;by_cases E:n=0
 ·subst E
  go_enter Tryz.func186,Tryz.ntmps186
  go_wp2;go_ret;exact ⟨rfl,rfl⟩
 ·have G:((n:Int)==0)=false:=by rw [Ee];omega
  have H:Hid (decide (slLen (.slice A n c)=0)=false):=DV E;clear E
  go_enter Tryz.func186,Tryz.ntmps186
  go_wp2;go_ret;exact ⟨zi H.out.symm,rfl⟩
theorem deleteFuncL_calls {w:World} {B g:Nat} {l:List SlV} (I:BN w B (.slice (some ⟨g,0,none⟩) (l.map (·.1)).length cap) (l.map (·.1))) (hl:l.length<=1000000):
  Calls Tryz.prog 184 #[.slice (some ⟨g,0,none⟩) (l.map (·.1)).length cap,.func (.func 186) #[] #[]] w fun e w'=>∃v',e=.returned v'/\BN w' B v' ((l.filter fun x=>!decide (slLen x.1=0)).map (·.1))/\Below B w w':=by
 letI:Inhabited SlV:=⟨⟨.slice none 0 0,_,_,_,rfl⟩⟩
 have G:=Bx I;have O:B<=g:=(World.ownsRow.lt I g rfl).1;have E:(l.map (·.1)).length=l.toArray.size:=by simp
 have J:=AnyE.slices_DeleteFunc dfLA (fun x:SlV=>x.1) (fun x=>by obtain ⟨_,A,n,c,rfl⟩:=x;rfl) (fun x=>decide (slLen x.1=0)) 186 #[] cf75 ⟨.slice none 0 0,_,_,_,rfl⟩ Tryz.zeroValue23 g 0 cap l.toArray w
  (fun W x hb=>by
   refine Calls.mono (paths1_sl x W) ?_;rintro e w' ⟨rfl,rfl⟩;exact ⟨rfl,0,rfl⟩)
  (fun n os dk x _=>by
   refine Calls.mono (paths1_sl x _) ?_;rintro e w' ⟨rfl,rfl⟩;exact ⟨rfl,0,rfl⟩)
  (holds_sl I) (by rw [<-E];simp;omega) (by rw [<-E];exact G)
 change Calls Tryz.prog 184 _ _ _ at J;rw [<-E] at J;refine Calls.mono J ?_;rintro e w' ⟨rfl,q,rfl⟩;have M:(l.filter fun x=>!decide (slLen x.1=0)).length<=l.length:=Eu _ _;have U:w.ownsRow B 23 1 (.slice (some ⟨g,0,none⟩) (l.map (·.1)).length cap) (l.map (·.1)).length (l.map fun x:SlV=>x.1):=I;refine ⟨_,rfl,?_,Lib.below_putRow (Below.refl _ _) O⟩;have:=Lib.ownsRow_putRow (enc:=fun x:SlV=>x.1) (q:=q) (k:=(l.filter fun x=>!decide (slLen x.1=0)).length) (ys:=(l.filter fun x=>!decide (slLen x.1=0))++List.replicate (l.length - (l.filter fun x=>!decide (slLen x.1=0)).length) ⟨.slice none 0 0,_,_,_,rfl⟩) U (by simp;omega) (by simpa using M);rw [List.take_left' rfl] at this;unfold BN;rw [EB];simpa using this
theorem deleteFuncL_nil (A:Option Addr) (c:Nat) (w:World):
  Calls Tryz.prog 184 #[.slice A 0 c,.func (.func 186) #[] #[]] w fun e w'=>e=.returned (.slice A 0 c)/\za w w':=by
 have hI:Hid (∀w,Calls Tryz.prog 220 #[.slice A 0 c,.func (.func 186) #[] #[]] w fun e w'=>e=.returned (.int .i64 (-1))/\za w w'):=fun w=>by
  go_enter Tryz.func220,Tryz.ntmps220
  go_wp2_with fail
  go_loopg [8] 0 (fun gk v wr=>v=.int .i64 0/\gk=0/\Hid (za w wr))
  case atStart=>exact ⟨rfl,rfl,za.refl _⟩
  case round=>
   obtain ⟨rfl,rfl,G⟩:=hrel
   go_wp2_with fail
   go_ret;exact ⟨rfl,G.out⟩
 go_enter Tryz.func184,Tryz.ntmps184
 go_wp2_with fail
 refine (hI.out w).mono ?_;rintro e w2 ⟨rfl,E⟩
 go_wp2_with fail
 go_ret;exact ⟨rfl,E⟩
def PathsPostY (Y:Nat->Prop) (w:World) (m:MZ) (ch:List Int) (e:Ending) (w':World):Prop:=
 ∃v,e=.returned (.tuple #[v,.bool (DM m ch)])/\za w w'/\zR w' (fun b=>Y b\/w.heap.size<=b) v (zm m ch)
theorem filter_pair {w:World} {ok:Nat->Prop}:∀(l:List SlV) (ps:List (List Int)),l.length=ps.length->(∀(i:Nat) x,ps[i]?=some x->∃u,(l.map (·.1))[i]?=some u/\zk w ok u x)->
  ((l.filter fun x=>!decide (slLen x.1=0)).length=(ps.filter fun p=>decide (p.length≠0)).length)/\∀(i:Nat) x,(ps.filter fun p=>decide (p.length≠0))[i]?=some x->∃u,((l.filter fun x=>!decide (slLen x.1=0)).map (·.1))[i]?=some u/\zk w ok u x
 | [],[],_,_=>⟨rfl,fun i x E=>by simp at E⟩
 | a :: l,p :: ps,M,h=>by
  obtain ⟨h1,h2⟩:=filter_pair l ps (by simpa using M) (fun i x E=>by simpa using h (i+1) x (by simpa using E));obtain ⟨u,O,J⟩:=h 0 p rfl;have I:a.1=u:=by simpa using O
  have G:slLen a.1=p.length:=by
   obtain ⟨A,c,e,_⟩:=id J;rw [I,e];rfl
  by_cases hp:p.length=0
  ·rw [Ez (by simp [G,hp]),Ez (by simp [hp])];exact ⟨h1,h2⟩
  ·rw [EK (by simp [G,hp]),EK (by simp [hp])];refine ⟨by simp [h1],fun i x E=>?_⟩
   match i,E with
   | 0,E=>
    have:p=x:=by simpa using E
    subst this;exact ⟨u,by simp [I],J⟩
   | i+1,E=>simpa using h2 i x (by simpa using E)
theorem rPathsY_calls {okc Y:Nat->Prop} {v vc:Value} {ch:List Int} (w:World) (hm:zt w Y v m) (hl:Lens m) (b5:zk w okc vc ch) (e3:ch.length<=20000000000000):
  Calls Tryz.prog 129 #[v,vc] w (PathsPostY Y w m ch):=by
 have d5:=zh hm;obtain ⟨vfr,vup,vts,rfl,-,-,-⟩:=hm;have c6:=zh b5;obtain ⟨A,c,rfl,f4,-⟩:=b5;have HL:=zh hl;clear hl
 go_enter Tryz.func129,Tryz.ntmps129
 go_wp2_with fail
 generalize b8:w.alloc (.cells #[.int .i64 m.w,.int .i64 m.h,.int .i64 m.l,vfr,vup,vts] 32)=wa;have O:za w wa:=by rw [<-b8];exact (za.refl w).alloc _
 have c8:Hid (w.heap.size<=wa.heap.size):=O.size;clear b8;refine (stateOf_calls wa (d5.out.below O) HL.out (c6.out.below O) e3).mono ?_;rintro e w1 ⟨v1,rfl,b9,h1⟩;have H1:=zh h1;have M:za w w1:=O.trans b9;have a9:Hid (w.heap.size<=w1.heap.size):=M.size;clear h1 b9;obtain ⟨bb,a4⟩:=EY (DM m ch);rw [<-a4] at H1⊢;have E:=zh a4;clear a4;cases bb
 ·have G:Hid (PathsPostY Y w m ch (.returned (.tuple #[.slice none 0 0,.bool false])) w1):=⟨_,by rw [<-E.out],M,by unfold zm;rw [<-E.out];exact ⟨[],⟨none,0,rfl,DR _,AE.nil _ _ _ _⟩,fun i x hx=>by simp at hx⟩⟩
  go_wp2_with fail
  go_ret2
  exact G.out
 ·have J:∃p,v1=.pointer (some ⟨p,0,none⟩)/\StC w1 (fun b=>Y b\/wa.heap.size<=b) p m ch:=by
   rcases H1.out with ⟨h,_⟩ | ⟨_,h⟩
   ·cases h
   ·exact h
  obtain ⟨p,rfl,us,f,u,t,vc',vp,gu,e4,J⟩:=J;obtain ⟨r0,r1,r2,r3,r4,r5,r6,r7,r8⟩:=J.rules;obtain ⟨hg,hc⟩:=Da E.out.symm;obtain ⟨vs,⟨Ap,cp,rfl,d9,a6⟩,a5⟩:=J.ps;have a7:vs.length=(Aw m ch).length:=by have:=a6.1;omega
  have e9:(Aw m ch).length<=6:=DT hc.psOk.pl hg.tk
  have b0:Hid (Ae w1 (fun b=>Y b\/wa.heap.size<=b) 1 (.slice Ap (Aw m ch).length cp) vs.length vs):=by
   show Ae _ _ _ _ _ _;rw [a7];exact ⟨Ap,cp,rfl,d9,a6⟩
  have c9:=zh a5
  have b3:∀u∈vs,∃A n c,u=.slice A n c:=fun u hu=>by
   obtain ⟨i,hi,rfl⟩:=Ex hu;obtain ⟨u',h1,A',c',e,_⟩:=a5 i _ (DO (by omega));rw [DO hi] at h1;injection h1 with h1;exact ⟨_,_,_,h1.trans e⟩
  have b1:=zh b3;have b2:=zh a7;have d6:Hid (zm m ch=(Aw m ch).filter fun p=>decide (p.length≠0)):=by show _=_;unfold zm;rw [if_pos E.out.symm]
  clear J e4 hg hc H1 a5 a6 b3 a7;have f0:=za.refl w1
  go_wp2_with fail
  refine (cloneL_calls w1 b0.out (fun u hu=>by obtain ⟨A,n,c,rfl⟩:=b1.out u hu;rfl) (by have:=b2.out;omega)).mono ?_;rintro e w2 ⟨v2,rfl,a1,I⟩;obtain ⟨l,hl⟩:∃l:List SlV,l.map (·.1)=vs:=⟨vs.attachWith _ b1.out,by simp⟩;have b6:l.length=(Aw m ch).length:=by have:=congrArg List.length hl;have:=b2.out;simp at *;omega
  have b4:=filter_pair (w:=w1) (ok:=fun b=>Y b\/wa.heap.size<=b) l (Aw m ch) b6 (by rw [hl];exact c9.out);have d4:=zh b4;have f2:za w w2:=M.trans a1
  have a0:∃v3 w3,Calls Tryz.prog 184 #[v2,.func (.func 186) #[] #[]] w2 (fun e w'=>∃v',e=.returned v'/\BN w' w1.heap.size v' ((l.filter fun x=>!decide (slLen x.1=0)).map (·.1))/\za w1 w')/\v3=v2/\w3=w2:=by
   refine ⟨v2,w2,?_,rfl,rfl⟩;rcases EC vs.length with h0 | h0
   ·have e5:=Ei h0;subst e5;have e2:l=[]:=Ei (by have:=congrArg List.length hl;simpa using this);subst e2;obtain ⟨A',c',rfl,f3,-⟩:=Ae.of_own I;refine (deleteFuncL_nil A' c' w2).mono ?_;rintro e w3 ⟨rfl,hE⟩;exact ⟨_,rfl,BN.ext I hE,a1.trans hE⟩
   ·have a2:=I;unfold BN at a2;obtain ⟨g,cap,rfl,hg,f5⟩:=World.ownsRow.form a2 h0;subst hl;refine (deleteFuncL_calls I (by omega)).mono ?_;rintro e w3 ⟨v3,rfl,U,d8⟩;exact ⟨_,rfl,U,Below.trans a1 d8⟩
  obtain ⟨_,_,a0,_,_⟩:=a0;have c7:=zh a0;clear I a0 a1 hl b6 b4
  go_wp2_with fail
  refine c7.out.mono ?_;rintro e w3 ⟨v3,rfl,U,a8⟩
  have G:Hid (PathsPostY Y w m ch (.returned (.tuple #[v3,.bool true])) w3):=by
   refine ⟨v3,by rw [<-E.out],M.trans a8,?_⟩;rw [d6.out];obtain ⟨h1,h2⟩:=d4.out;have h3:Ae w3 (fun b=>Y b\/w.heap.size<=b) 1 v3 (((l.filter fun x=>!decide (slLen x.1=0)).map (·.1)).length) ((l.filter fun x=>!decide (slLen x.1=0)).map (·.1)):=(Ae.of_own U).weaken fun b hb=>.inr (DT a9.out hb)
   rw [EB,h1] at h3
   exact ⟨_,h3,fun i x hx=>by
    obtain ⟨u,hu,hi⟩:=h2 i x hx;exact ⟨u,hu,(hi.weaken fun b hb=>hb.imp id (fun h=>DT c8.out h)).below a8⟩⟩
  clear U a8
  go_wp2_with fail
  go_ret2
  exact G.out
end
end Go.Proofs.YtjomnbdjajjgfaaGreatDoor
