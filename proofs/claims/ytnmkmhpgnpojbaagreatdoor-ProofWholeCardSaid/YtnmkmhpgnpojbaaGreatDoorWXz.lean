import Derived.Test.YtnmkmhpgnpojbaaGreatDoorWXy
set_option linter.unusedVariables false
set_option linter.unusedSimpArgs false
set_option maxRecDepth 100000
set_option maxHeartbeats 16000000
namespace Go.Proofs.YtnmkmhpgnpojbaaGreatDoor
variable {L M all:List (List Int)} {set:List Int} {k:Nat} {ok okp:Nat->Prop} {p:PT} {P:Program} {vp:Value}
section
open Go.RowKit
def GivesZ {α:Type} (n:Nat) (P:Program) (g:Nat) (lb:Array Value) (encs:α->Array Value) (G:Nat->α->World->Prop) (N:Nat) (Z:Nat->Prop) (w:World):Prop:=
 ∀(l:Nat) (J:Nat->World->Prop) (Jx:World->Prop) (W:World),zb w W->w.heap.size<=l->l<W.heap.size->(∀k A B,J k A->Below W.heap.size A B->J k B)->(∀A B,Jx A->Below W.heap.size A B->Jx B)->
  (∀k x W1,k<N->J k W1->G k x W1->YieldAt Fence.wide (n - 1) P l (encs x) W1 fun e W'=>(e=.returned (.bool true)/\J (k+1) W'/\zi (fun b=>b=l\/Z b) W1 W')\/(e=.returned (.bool false)/\Jx W'/\∀b,W.heap.size<=b->b<W1.heap.size->W'.heap[b]?=W1.heap[b]?))->
  J 0 W->
  CallsIn Fence.wide n P g (#[.func (.yield l) #[] #[]]++lb) W fun e W'=>(∃v,e=.returned v)/\(J N W'\/Jx W')
def postZ (B k:Nat) (I:Nat->World->Prop) (Ix:Code->World->Prop) (Z:Nat->Prop) (W:World):Exit->Act->World->Prop
 | .normal,_,W'=>zi Z W W'/\I (k+1) W'
 | .ret,_,W'=>(∀b,B<=b->b<W.heap.size->W'.heap[b]?=W.heap[b]?)/\Ix .ret W'
 | .exit id,_,W'=>(∀b,B<=b->b<W.heap.size->W'.heap[b]?=W.heap[b]?)/\Ix (.exit id) W'
 | .goto t,_,W'=>(∀b,B<=b->b<W.heap.size->W'.heap[b]?=W.heap[b]?)/\Ix (.goto t) W'
 | .panic _,_,_=>False
 | .outgrown,_,_=>False
theorem wpIn_loopZ {n:Nat} {α:Type} {g:Operand} {ps:Array Tmp} {assign body:Code} {Q:Exit->Act->World->Prop} {a:Act} {w:World}
  {gf:Nat} {lb:Array Value} (hg:a.eval g=.func (.func gf) #[] lb) (eg:∀args w,(callFunc gf args).run P w=.ok (.enter gf args) w)
  {encs:α->Array Value} {G:Nat->α->World->Prop} {N:Nat} {w0:World} {Z:Nat->Prop} (hZ:∀b,Z b->b<w.heap.size) (c6:GivesZ (n - 1) P gf lb encs G N Z w0) (b8:zb w0 w) (d8:∀x,(encs x).size=ps.size)
  (I:Nat->World->Prop) (Ix:Code->World->Prop) (hI:∀k A B,I k A->Below w.heap.size A B->I k B) (hIx:∀c A B,Ix c A->Below w.heap.size A B->Ix c B)
  (Ax:Nat->α->Act->World->Prop) (c9:∀k x a A l,Ax k x a A->w.heap.size<l->l<A.heap.size->(∃r,A.heap[l]?=some (.loop r))->∀o,Ax k x a (A.putObj l o)) (h0:I 0 w)
  (a6:∀(l k:Nat) (x:α) (W:World) (K:Act->World->Prop),k<N->I k W->G k x W->w.heap.size<W.heap.size->(∀a' W',zb W W'->Ax k x a' W'->K a' W')->
   assign.wpIn (Fence.wide.inRound l) (n - 1 - 1) P (Exit.then K (fun _ _ _=>False)) { tmps:=(ps.zip (encs x)).foldl (fun t (p,v)=>t.setIfInBounds p v) a.tmps,defers:=[] } W)
  (b2:∀(l k:Nat) (x:α) (a':Act) (W:World),k<N->I k W->Ax k x a' W->w.heap.size<W.heap.size->(∃r,W.heap[w.heap.size+1]?=some (.loop r))->body.wpIn (Fence.wide.inRound l) (n - 1 - 1) P (postZ w.heap.size k I Ix Z W) a' W)
  (b3:∀(D:Nat) (W:World),w.heap.size<=D->I N W->W.heap[D]?=some (.deferred (some []))->Q .normal { a with defers:={ target:=.collected D,args:=#[] } :: a.defers } W)
  (b5:∀(D:Nat) (c:Code) (W:World),w.heap.size<=D->Ix c W->W.heap[D]?=some (.deferred (some []))->c.wpIn Fence.wide n P Q { a with defers:={ target:=.collected D,args:=#[] } :: a.defers } W):
  (Code.rangeFunc g ps assign body).wpIn Fence.wide n P Q a w:=by
 refine wpIn_rangeFunc ?_;intro fn hfn;obtain ⟨rec,z⟩:∃rec:LoopState->Option Code->Loop,rec=fun st pe=>{ state:=st,pending:=pe,fn,tmps:=a.tmps,params:=ps,assign,body,defers:=w.heap.size }:=⟨_,rfl⟩
 obtain ⟨W1,a5⟩:∃W1,(w.alloc (.deferred (some []))).alloc (.loop (rec .ready none))=W1:=⟨_,rfl⟩;have e5:W1.heap.size=w.heap.size+2:=by rw [<-a5];simp
 have d5:W1.heap[w.heap.size+1]?=some (.loop (rec .ready none)):=by
  rw [<-a5];have:=World.alloc_heap_new (w.alloc (.deferred (some []))) (.loop (rec .ready none))
  rwa [World.size_alloc] at this
 have d4:W1.heap[w.heap.size]?=some (.deferred (some [])):=by
  rw [<-a5];exact (DK _ _ _ (by simp)).trans (World.alloc_heap_new w _)
 have b7:zb w W1:=by rw [<-a5];exact ((zb.refl w).alloc _).alloc _
 refine ⟨w.heap.size+1,[{ target:=.collected w.heap.size,args:=#[] }],W1,{ target:=.fn (.func gf) lb,args:=#[.func (.yield (w.heap.size+1)) #[] #[]] },W1,gf,
  #[.func (.yield (w.heap.size+1)) #[] #[]]++lb,W1,?_,?_,fun _ _=>trivial,?_,fun h=>absurd h (by simp [Fence.wide]),?_⟩
 ·rw [<-a5,z];exact run_enterLoop_outer _ _ _ _ _
 ·simp only [resolve,hg];simp [go_sem]
 ·simp [invoke,go_sem,eg]
 ·refine (c6 (w.heap.size+1)
   (fun k W=>I k W/\W.heap[w.heap.size+1]?=some (.loop (rec .ready none))/\W.heap[w.heap.size]?=some (.deferred (some []))/\w.heap.size+1<W.heap.size)
   (fun W=>∃c,Ix c W/\W.heap[w.heap.size+1]?=some (.loop (rec .done (some c)))/\W.heap[w.heap.size]?=some (.deferred (some [])))
   W1 (b8.trans b7) (by have:=b8.size;omega) (by omega) ?_ ?_ ?_ ⟨hI _ _ _ h0 b7,d5,d4,by omega⟩).mono ?_
  ·rintro k A B ⟨h1,h2,h3,h4⟩ U;exact ⟨hI _ _ _ h1 (U.mono (by omega)),(U.block _ (by omega)).trans h2,(U.block _ (by omega)).trans h3,DT h4 U.size⟩
  ·rintro A B ⟨c,h1,h2,h3⟩ U;exact ⟨c,hIx _ _ _ h1 (U.mono (by omega)),(U.block _ (by omega)).trans h2,(U.block _ (by omega)).trans h3⟩
  ·-- one round
   rintro k x W c0 ⟨hi,hl,hD,O⟩ d7;have hy:=run_yield (P:=P) (args:=encs x) hl (by rw [z];exact d8 x);rw [z] at hy;refine ⟨fn,_,assign,body,hy,roundIn_of_wpIn hfn (a6 _ k x W _ c0 hi d7 (Nat.lt_trans (Nat.lt_succ_self _) O) (fun a' Wa a1 d6=>?_))⟩;have hl:=(a1.block _ O).trans hl;have hD:=(a1.block _ (by omega)).trans hD;have hi:=hI _ _ _ hi (a1.mono (by omega));have e0:=O;have O:w.heap.size+1<Wa.heap.size:=DT O a1.size;refine ⟨_,run_beginRound hl (by rw [z]),?_⟩;have a4:(Wa.putObj (w.heap.size+1) (.loop { rec .ready none with state:=.busy })).heap[w.heap.size+1]?=some (.loop { rec .ready none with state:=.busy }):=World.putObj_heap_same O;have a8:(Wa.putObj (w.heap.size+1) (.loop { rec .ready none with state:=.busy })).heap[w.heap.size]?=some (.deferred (some [])):=(World.putObj_heap_other (by omega)).trans hD;have V:w.heap.size+1<(Wa.putObj (w.heap.size+1) (.loop { rec .ready none with state:=.busy })).heap.size:=(En.1 a4).1;have b4:Wa.grownBy (Wa.putObj (w.heap.size+1) (.loop { rec .ready none with state:=.busy })) (some (w.heap.size+1)):=grownBy_putObj' _ _ _;refine wpIn_mono (b2 _ k x a' _ c0 (hI _ _ _ hi (zy _ (by omega) O)) (c9 _ _ _ _ _ d6 (by omega) O ⟨_,hl⟩ _) (Nat.lt_trans (Nat.lt_succ_self _) V) ⟨_,a4⟩) ?_;generalize Wa.putObj (w.heap.size+1) (.loop { rec .ready none with state:=.busy })=W2 at*
   have fin:∀(jump:Option Code) (W3:World),W3.heap[w.heap.size+1]?=some (.loop { rec .ready none with state:=.busy })->
     (Instr.endRound (w.heap.size+1) jump).run P W3=.ok (.bool jump.isNone) (W3.putObj (w.heap.size+1) (.loop (rec (if jump.isNone then .ready else .done) jump))):=fun jump W3 J=>by
    have:=run_endRound (P:=P) jump J;rw [z] at this⊢;exact this
   have keep:∀W3:World,(∀b,w.heap.size<=b->b<W2.heap.size->W3.heap[b]?=W2.heap[b]?)->∀(o:Obj) (b:Nat),W1.heap.size<=b->b<W.heap.size->(W3.putObj (w.heap.size+1) o).heap[b]?=W.heap[b]?:=fun W3 E o b e3 b9=>by
    have h1:b<Wa.heap.size:=DT b9 a1.size;have h2:=b4.size;exact (World.putObj_heap_other (by omega)).trans ((E b (by omega) (by omega)).trans ((b4.block b h1 (fun e=>by injection e;omega)).trans (a1.block b b9)))
   rintro e a3 W3 hp
   cases e with
   | normal=>
    obtain ⟨b1,a2⟩:=hp;have J:=(b1.block _ V (fun h=>by have:=hZ _ h;omega)).trans a4;have d:=(En.1 J).1;have a0:=(b1.block _ (by omega) (fun h=>by have:=hZ _ h;omega)).trans a8;refine ⟨_,_,fin none W3 J,.inl ⟨rfl,⟨hI _ _ _ a2 (zy _ (by omega) d),World.putObj_heap_same d,(World.putObj_heap_other (by omega)).trans a0,?_⟩,?_⟩⟩
    ·exact (En.1 (World.putObj_heap_same d)).1
    ·exact (((zi.of_ext (X:=fun b=>b=w.heap.size+1\/Z b) a1).grown b4 (fun k e _=>by injection e with e;exact .inl e.symm)).trans b1 (fun k _ h=>.inr h)).grown (grownBy_putObj' _ _ _) (fun k e _=>by injection e with e;exact .inl e.symm)
   | ret=>
    obtain ⟨E,a2⟩:=hp;have J:=(E _ (by omega) V).trans a4;have d:=(En.1 J).1;have a0:=(E _ (Dq _) (by omega)).trans a8;exact ⟨_,_,fin (some .ret) W3 J,.inr ⟨rfl,⟨.ret,hIx _ _ _ a2 (zy _ (by omega) d),World.putObj_heap_same d,(World.putObj_heap_other (by omega)).trans a0⟩,keep W3 E _⟩⟩
   | exit id=>
    obtain ⟨E,a2⟩:=hp;have J:=(E _ (by omega) V).trans a4;have d:=(En.1 J).1;have a0:=(E _ (Dq _) (by omega)).trans a8;exact ⟨_,_,fin (some (.exit id)) W3 J,.inr ⟨rfl,⟨.exit id,hIx _ _ _ a2 (zy _ (by omega) d),World.putObj_heap_same d,(World.putObj_heap_other (by omega)).trans a0⟩,keep W3 E _⟩⟩
   | goto t=>
    obtain ⟨E,a2⟩:=hp;have J:=(E _ (by omega) V).trans a4;have d:=(En.1 J).1;have a0:=(E _ (Dq _) (by omega)).trans a8;exact ⟨_,_,fin (some (.goto t)) W3 J,.inr ⟨rfl,⟨.goto t,hIx _ _ _ a2 (zy _ (by omega) d),World.putObj_heap_same d,(World.putObj_heap_other (by omega)).trans a0⟩,keep W3 E _⟩⟩
   | panic ch=>exact hp.elim
   | outgrown=>exact hp.elim
  ·-- behind the iterator
   rintro e W2 ⟨⟨v,rfl⟩,(⟨hi,hl,hD,O⟩ | ⟨c,hi,hl,hD⟩)⟩
   ·exact ⟨none,_,by have:=run_endLoop (P:=P) hl (by rw [z];simp);rw [z] at this;exact this,b3 _ _ (Dq _) (hI _ _ _ hi (zy _ (by omega) O)) ((World.putObj_heap_other (by omega)).trans hD)⟩
   ·have O:=(En.1 hl).1;exact ⟨some c,_,by have:=run_endLoop (P:=P) hl (by rw [z];simp);rw [z] at this;exact this,b5 _ c _ (Dq _) (hIx _ _ _ hi (zy _ (by omega) O)) ((World.putObj_heap_other (by omega)).trans hD)⟩
def Pref (w:World) (B:Nat) (v:Value) (l:List Int):Prop:=
 (v=.slice none 0 0/\l=[])\/∃g c cur,v=.slice (some ⟨g,0,none⟩) l.length c/\B<=g/\l.length<=c/\c<=maxLen/\ze w g 3 cur/\c<=cur.size/\∀(j:Nat) x,l[j]?=some x->cur[j]?=some (.int .i64 x)
structure RC (lb B j:Nat) (W W':World):Prop where
 os:W'.os=W.os
 tape:W'.tape=W.tape
 output:W'.output=W.output
 size:W.heap.size<=W'.heap.size
 keep:∀b,b<B->b<W.heap.size->b≠lb->W'.heap[b]?=W.heap[b]?
 pre:∀u s,Pref W B u s->s.length<=j->Pref W' B u s
section
variable {lb B j:Nat} {W W' W'' w w':World} {v:Value} {l:List Int} {x:Int}
theorem RC.refl (lb B j:Nat) (W:World):RC lb B j W W:=⟨rfl,rfl,rfl,Dq _,fun _ _ _ _=>rfl,fun _ _ h _=>h⟩
theorem RC.trans (h:RC lb B j W W') (d:RC lb B j W' W''):RC lb B j W W'':=
 ⟨d.os.trans h.os,d.tape.trans h.tape,d.output.trans h.output,Dt h.size d.size,fun b D o z=>(d.keep b D (DT o h.size) z).trans (h.keep b D o z),fun u s hp E=>d.pre u s (h.pre u s hp E) E⟩
theorem RC.mono {i:Nat} (h:RC lb B j W W') (d:i<=j):RC lb B i W W':=⟨h.os,h.tape,h.output,h.size,h.keep,fun u s hp o=>h.pre u s hp (Dt o d)⟩
theorem Pref.blocks (h:Pref w B v l) (I:∀b,B<=b->b<w.heap.size->w'.heap[b]?=w.heap[b]?):Pref w' B v l:=by
 rcases h with h | ⟨g,c,cur,rfl,d,z,D,o,E,G⟩
 ·exact .inl h
 ·exact .inr ⟨g,c,cur,rfl,d,z,D,(I g d (za o)).trans o,E,G⟩
theorem RC.ext (o:zb W W'):RC lb B j W W':=⟨o.os,o.tape,o.output,o.size,fun b _ d _=>o.block b d,fun u s hp _=>hp.blocks fun b _ d=>o.block b d⟩
theorem RC.yield (o:W.grownBy W' (some lb)) (E:lb<B):RC lb B j W W':=
 ⟨o.os,o.tape,o.output,o.size,fun b _ d z=>o.block b d (fun e=>z (by injection e)),fun u s hp _=>hp.blocks fun b D d=>o.block b d (fun e=>by injection e with e;omega)⟩
theorem Pref.nil (w:World) (B:Nat):Pref w B (.slice none 0 0) []:=.inl ⟨rfl,rfl⟩
theorem Pref.ints (h:Pref w B v l):zk w (fun b=>B<=b) v l:=by
 rcases h with ⟨rfl,rfl⟩ | ⟨g,c,cur,rfl,z,D,I,G,J,E⟩
 ·exact zk.nil _ _
 ·refine ⟨_,c,rfl,D,by simp,fun _=>⟨g,0,rfl,z,fun j u d=>?_⟩⟩;rw [Ea] at d
  cases o:l[j]? with
  | none=>rw [o] at d;cases d
  | some y=>
   rw [o] at d;rw [Nat.zero_add];have:=G.cell (E j y o);rw [this];exact d
theorem Pref.of_own (h:zt w B v l):Pref w B v l:=by
 obtain ⟨I,⟨rfl,h0⟩ | ⟨g,cap,cur,rfl,E,hh,z,d,D,ht⟩⟩:=h
 ·exact .inl ⟨rfl,List.length_eq_zero_iff.1 h0⟩
 ·refine .inr ⟨g,cap,cur,rfl,E,z,d,hh,by omega,fun j x G=>?_⟩;have o:(l.map (Value.int .i64))[j]?=some (.int .i64 x):=by rw [Ea,G];rfl
  rw [<-ht,List.getElem?_take] at o
  split at o
  ·simpa using o
  ·cases o
end
end
section
open Go.RowKit
attribute [local go_sem ↓] Go.wp_at_zero Go.wp_at_succ
attribute [local go_sem] Oper.semAt_some
def OutAt (all:List (List Int)) (k:Nat) (set:List Int) (L:List (List Int)):Prop:=∀(i:Nat) c,L[i]?=some c->all[k+i]?=some (set++c)
theorem OutAt.left {x:Int} (h:OutAt all k set (L.map (x :: ·)++M)):OutAt all k (set++[x]) L:=fun i c d=>by
 have:=h i (x :: c) (by rw [Dw (by rw [Eb];exact (Em.1 d).1),Ea,d];rfl);rw [this,List.append_assoc];rfl
theorem OutAt.right (h:OutAt all k set (L++M)):OutAt all (k+L.length) set M:=fun i c d=>by
 have:=h (L.length+i) c (by rw [Dx (by omega),Nat.add_sub_cancel_left];exact d);rw [<-this];congr 1;omega
theorem yield_any {m:Nat} {l:Nat} {args:Array Value} {W:World} {R:Ending->World->Prop} (h:YieldAt Fence.wide m P l args W R):
  ∃fn tmps assign body,(Instr.yield l args).run P W=.ok (.round l fn tmps assign body) W/\∀m',RoundIn Fence.wide m' P l fn tmps assign body W R:=by
 obtain ⟨fn,tmps,assign,body,o,d⟩:=h;exact ⟨fn,tmps,assign,body,o,fun m'=>⟨d.1,fun c cs _=>d.2 c cs (room_wide _)⟩⟩
def Marks (D:List Nat):List Deferred:=D.map fun r=>{ target:=.collected r,args:=#[] }
theorem BY {F:Fence} {n:Nat} {P:Program} {fn:Func} {tmps:Array Value} {R:Ending->World->Prop} (I:fn.results=#[]):∀(D:List Nat) (B:Nat) (w:World),D.Nodup->(∀r∈D,B<=r/\w.heap[r]?=some (.deferred (some [])))->(∀w',Below B w w'->R (.returned (.tuple #[])) w')->LeavesInM F n P fn tmps R (Marks D) .returning w
 | [],B,w,_,_,h=>by
  unfold Marks LeavesInM LeavesIn;exact ⟨_,results_none I _ _ _,h w (Below.refl _ w)⟩
 | r :: D,B,w,z,E,h=>by
  obtain ⟨O,G⟩:=E r (Ed ..);have o:=(En.1 G).1;refine ⟨by simp,.inl ⟨_,_,rfl,run_takeDeferred G,?_⟩⟩;rw [List.nodup_cons] at z;refine BY I D B _ z.2 (fun r' d=>?_) (fun w' Q=>h w' ((zy _ O o).trans Q));obtain ⟨J,K⟩:=E r' (DM _ d);exact ⟨J,(World.putObj_heap_other (fun e:r'=r=>z.1 (by rw [<-e];exact d))).trans K⟩
theorem zi.belowR {X:Nat->Prop} {a b c:World} {B:Nat} (h:zi X a b) (d:Below B b c) (z:a.heap.size<=B):zi X a c:=
 h.trans (X':=fun k=>B<=k) ⟨d.os,d.tape,d.output,d.size,fun k o D=>d.block k (by omega)⟩ (fun k o h=>absurd h (by omega))
theorem arr25 (T:Array Value) (h:T.size=25):∃x0 x1 x2 x3 x4 x5 x6 x7 x8 x9 x10 x11 x12 x13 x14 x15 x16 x17 x18 x19 x20 x21 x22 x23 x24,T=#[x0,x1,x2,x3,x4,x5,x6,x7,x8,x9,x10,x11,x12,x13,x14,x15,x16,x17,x18,x19,x20,x21,x22,x23,x24]:=by
 obtain ⟨l⟩:=T
 match l,h with
 | [x0,x1,x2,x3,x4,x5,x6,x7,x8,x9,x10,x11,x12,x13,x14,x15,x16,x17,x18,x19,x20,x21,x22,x23,x24],_=>exact ⟨_,_,_,_,_,_,_,_,_,_,_,_,_,_,_,_,_,_,_,_,_,_,_,_,_,rfl⟩
theorem cell_loop {W:World} {g l:Nat} {r:Loop} {t:TypeId} {cs:Array Value} (h:ze W g t cs) (z:W.heap[l]?=some (.loop r)) (o:Obj):ze (W.putObj l o) g t cs:=by
 refine (World.putObj_heap_other ?_).trans h;rintro rfl;have d:W.heap[g]?=some (.cells cs t):=h;rw [z] at d
 cases d
theorem fold_one (p:Tmp) (v:Value) (T:Array Value):(#[p].zip #[v]).foldl (fun t (p,v)=>t.setIfInBounds p v) T=T.setIfInBounds p v:=by
 simp
theorem sizeL_take:∀(l:List PT) (k:Nat) (d:k<l.length),PT.sizeL (l.take (k+1))=PT.sizeL (l.take k)+(l[k]).size
 | [],k,d=>by simp at d
 | x :: l,0,d=>by simp [PT.sizeL]
 | x :: l,k+1,d=>by
  have h:=sizeL_take l k (by simpa using d);simp only [List.take_succ_cons,PT.sizeL,List.getElem_cons_succ];omega
theorem size_pos (p:PT):1<=p.size:=by cases p;unfold PT.size;omega
theorem sizeL_len:∀(l:List PT),l.length<=PT.sizeL l
 | []=>Dq _
 | x :: l=>by
  have d:=sizeL_len l;have o:=size_pos x;simp only [Ex,PT.sizeL];omega
theorem sizeL_le:∀(l:List PT) (k:Nat),PT.sizeL (l.take k)<=PT.sizeL l
 | [],k=>by simp [PT.sizeL]
 | x :: l,0=>by simp [PT.sizeL]
 | x :: l,k+1=>by
  have h:=sizeL_le l k;simp only [List.take_succ_cons,PT.sizeL];omega
theorem Bn.inv {w:World} {t:Int} {vs vk:Value} (h:Bn w ok (.agg #[.int .i64 t,vs,vk]) p):∃side kids cs,p=.node t side kids/\zk w ok vs side/\Aw w ok 3 vk kids.length cs/\
  ∀(i:Nat) (D:i<kids.length),Bn w ok (.agg #[cs.getD (i*3) undef,cs.getD (i*3+1) undef,cs.getD (i*3+2) undef]) kids[i]:=by
 cases h with
 | mk d o z=>exact ⟨_,_,_,rfl,d,o,z⟩
theorem parts_calls {a0 a1 a2:Value} (w:World):
  Calls Tryz.prog 92 #[.agg #[a0,a1,a2]] w fun e w'=>∃gl,e=.returned (.func (.func 159) #[] #[.pointer (some ⟨gl,0,none⟩)])/\zb w w'/\w.heap.size<=gl/\w'.cell? ⟨gl,0,none⟩=some a0/\w'.cell? ⟨gl,1,none⟩=some a1/\w'.cell? ⟨gl,2,none⟩=some a2:=by
 go_enter Tryz.func92,Tryz.ntmps92
 go_wp2;go_ret;have d:=ze.new w #[a0,a1,a2] 41 (g:=w.heap.size) rfl;exact ⟨_,rfl,(zb.refl w).alloc _,Dq _,d.cell (k:=0) rfl,d.cell (k:=1) rfl,d.cell (k:=2) rfl⟩
theorem parts_gives:∀(N:Nat) (p:PT),p.size<=N->N<=4000000000000000000->∀{t:Int} {vs vk:Value} (w:World) (gl:Nat) (Z:Nat->Prop),Bn w (fun b=>¬ Z b) (.agg #[.int .i64 t,vs,vk]) p->¬ Z gl->(∀b,Z b->b<w.heap.size)->
  w.cell? ⟨gl,0,none⟩=some (.int .i64 t)->w.cell? ⟨gl,1,none⟩=some vs->w.cell? ⟨gl,2,none⟩=some vk->∀n,GivesZ n Tryz.prog 159 #[.pointer (some ⟨gl,0,none⟩)] (fun x:Value=>#[x]) (fun k x W=>∃(t:Int) (A:Option Addr) (n c:Nat) (B:Option Addr) (k d:Nat),x=.agg #[.int .i64 t,.slice A n c,.slice B k d]) p.size Z w:=by
 intro N
 induction N with
 | zero=>intro p hp;have:=size_pos p;omega
 | succ N ih=>
  intro p l8 n7 t vs vk w gl Z hp h9 hZ e7 g9 h6 n;obtain ⟨side,kids,cs,rfl,hs,hk,he⟩:=hp.bound.inv;have IH:=zh ih;intro l J Jx W hW j2 i5 hJ g3 hY h0;have m3:(PT.node t side kids).size=1+PT.sizeL kids:=by unfold PT.size;rfl
  rw [m3] at l8 hY⊢;have o0:=sizeL_len kids;obtain ⟨Ak,ck,rfl,n8,j0⟩:=hk;obtain ⟨As0,cs0,rfl,-,-⟩:=hs;have f4:=zh j0;have HE:=zh he;have HJ:=zh hJ;have HY:=zh hY;have HZ:=zh hZ;have HG:=zh h9;have HW:=zh hW;have HL:Hid (w.heap.size<=l/\l<W.heap.size/\gl<w.heap.size):=⟨j2,i5,zn e7⟩;have d0:=hW.cell e7;have d1:=hW.cell g9;have d2:=hW.cell h6;have e0:=zb.rule d0;have e1:=zb.rule d1;have e2:=zb.rule d2;have f0:zb W W:=zb.refl W;have e9:=Cf W;clear d0 d1 d2;have i1:=hJ 0 W _ h0 ((zb.refl W).alloc (.cells #[.func (.yield l) #[] #[]] 130));have g8:ze (W.alloc (.cells #[.func (.yield l) #[] #[]] 130)) W.heap.size 130 _:=ze.new W #[.func (.yield l) #[] #[]] 130 rfl;have j4:=hY 0 (.agg #[.int .i64 t,.slice As0 side.length cs0,.slice Ak kids.length ck]) _ (by omega) i1 ⟨_,_,_,_,_,_,_,rfl⟩;obtain ⟨fn,tmps,assign,body,j6,hR⟩:=yield_any j4;have HR:=zh hR;clear hp he j0 hJ hY hZ h9 hW j2 i5 h0 e7 g9 h6 hR j4 i1 ih;refine callsIn_of_wp_marks Tryz.func159 rfl trivial ?_ rfl;simp only [Tryz.ntmps159,List.size_toArray,Ex,Ey,Nat.reduceAdd,Nat.reduceSub,Array.replicate_succ,Array.replicate_zero,List.push_toArray,List.append_toArray,List.nil_append,List.cons_append];have d7:=zh g3;clear g3 g8
  gi_wp2_with fail
  refine ⟨fun h=>absurd h (by simp [Fence.wide]),?_⟩;refine (HR.out _).mono ?_;clear HR j6;have E:Hid (zb W (W.alloc (.cells #[.func (.yield l) #[] #[]] 130))/\(W.alloc (.cells #[.func (.yield l) #[] #[]] 130)).cell? ⟨W.heap.size,0,none⟩=some (.func (.yield l) #[] #[])):=⟨(zb.refl W).alloc _,(ze.new W #[.func (.yield l) #[] #[]] 130 rfl).cell (k:=0) rfl⟩;generalize W.alloc _=W1 at E⊢;obtain ⟨gy,e8⟩:∃g,g=W.heap.size:=⟨_,rfl⟩;rw [<-e8] at E⊢;have k1:Hid (gy=W.heap.size):=e8;clear e8 e9 f0;rintro e W2 (⟨rfl,c8,z⟩ | ⟨rfl,b5⟩)
  case inr=>
   gi_wp2_with fail
   exact BY rfl [] W.heap.size _ List.nodup_nil (fun _ h=>absurd h (Eo)) fun w' hw=>⟨⟨_,rfl⟩,.inr (d7.out _ _ b5.1 hw)⟩
  have f3:Hid (J (1+PT.sizeL (kids.take 0)) W2):=by (show J _ _);simpa [PT.sizeL] using c8
  have b6:=zh z
  have f2:W2.cell? ⟨gl,2,none⟩=some (.slice Ak kids.length ck):=z.cellk (e2 W1 E.out.1) (by
   have I:=HL.out;rintro (h | h)
   ·have:gl=l:=h;omega
   ·exact HG.out h)
  clear c8 z
  gi_wp2_with fail
  clear f2;refine wpIn_loop (fun a wr=>∃(k:Nat) (D:List Nat) (y0 y1 y3 y4 y5 y6 y7 y8 y9 y10 y14 y15 y16 y17 y18 y19 y20 y21 y22 y23 y24:Value),k<=kids.length/\a={ tmps:=#[y0,y1,.pointer (some ⟨gy,0,none⟩),y3,y4,y5,y6,y7,y8,y9,y10,.slice Ak kids.length ck,.int .i64 kids.length,.int .i64 k,y14,y15,y16,y17,y18,y19,y20,y21,y22,y23,y24],defers:=Marks D }/\D.Nodup/\Hid (∀r∈D,W1.heap.size<=r/\wr.heap[r]?=some (.deferred (some [])))/\Hid (J (1+PT.sizeL (kids.take k)) wr)/\Hid (zi (fun b=>b=l\/Z b) W1 wr)) (fun a _=>kids.length - (intOf (a.tmps.getD 13 undef)).toNat) ?atStart ?round
  case atStart=>exact ⟨0,[],_,_,_,_,_,_,_,_,_,_,_,_,_,_,_,_,_,_,_,_,_,DF _,rfl,List.nodup_nil,(fun _ h=>absurd h (Eo)),f3.out,b6.out⟩
  clear f3 b6
  case round=>
   rintro a wk ⟨k,D,y0,y1,y3,y4,y5,y6,y7,y8,y9,y10,y14,y15,y16,y17,y18,y19,y20,y21,y22,y23,y24,hk,rfl,hD,b4,hj,c6⟩;by_cases i6:k<kids.length
   ·have m9:(k:Int)<(kids.length:Int):=by omega
    have m8:(0:Int)<=(k:Int):=by omega
    have b2:=HE.out k i6;have i4:=sizeL_take kids k i6;have l7:=sizeL_le kids (k+1);obtain ⟨b0,off0,rfl,l4,a9⟩:=f4.out.2 (by omega);have h8:=f4.out.1;obtain ⟨kid,d5⟩:=Ez (kids[k]);rw [<-d5] at b2 i4;obtain ⟨As,c1,Ak2,c2,Q,-⟩:=b2.form;rw [Q] at b2;simp only [Value.agg.injEq,Array.mk.injEq,List.cons.injEq,and_true] at Q;obtain ⟨g0,g1,g2⟩:=Q
    have c7:∀j,j<cs.length->wk.cell? ⟨b0,off0+j,none⟩=some (cs.getD j undef):=fun j hj=>by
     have I:=a9 j (cs.getD j undef) (by rw [List.getD_eq_getElem?_getD,List.getElem?_eq_getElem hj];rfl);refine c6.out.cellk (E.out.1.cell (HW.out.cell I)) ?_;have O:=HL.out;rintro (h | h)
     ·have:b0=l:=h;omega
     ·exact l4.1 h
    have m0:=c7 (k*3) (by omega);have m1:=c7 (k*3+1) (by omega);have m2:=c7 (k*3+2) (by omega);rw [g0] at m0;rw [g1,<-Nat.add_assoc] at m1;rw [g2,<-Nat.add_assoc] at m2;have k6:=zh b2;have d8:Hid (kid.size<=N/\1+PT.sizeL (kids.take (k+1))=1+PT.sizeL (kids.take k)+kid.size/\PT.sizeL (kids.take (k+1))<=PT.sizeL kids):=⟨by omega,by omega,by omega⟩;clear c7 h8 a9 d5 g0 g1 g2 b2 i4 l7;have f0:zb wk wk:=zb.refl wk;have e9:=Cf wk
    gi_wp2_with fail
    refine ⟨trivial,fun h=>absurd h (by simp [Fence.wide]),?_⟩;refine (callsIn_wide.2 (parts_calls _)).mono ?_;rintro e wp ⟨gx,rfl,c9,d4,i7,i8,i9⟩;have a7:zb wk wp:=((zb.refl wk).alloc _).trans c9;have l5:wk.heap.size<=gx:=by simp at d4;omega
    clear c9 d4;have U:Hid (W.heap.size<=W1.heap.size/\W1.heap.size<=wk.heap.size/\wk.heap.size<=wp.heap.size):=⟨E.out.1.size,c6.out.size,a7.size⟩;have f6:zi (fun b=>b=l\/Z b) w wp:=((zi.of_ext (X:=fun b=>b=l\/Z b) (HW.out.trans E.out.1)).tr c6.out).ext_r a7
    have g7:zN (fun b=>¬ Z b/\b<w.heap.size) w wp:=f6.same (fun b hb=>by
     rintro (h | h)
     ·have I:=HL.out;have O:=hb.2;omega
     ·exact hb.1 h)
    have g4:=k6.out.keepW (ok':=fun b=>¬ (b=l\/Z b)) g7 (fun b hb=>by
     rintro (h | h)
     ·have I:=HL.out;have O:=hb.2;omega
     ·exact hb.1 h)
    have f8:=IH.out kid d8.out.1 (by omega) wp gx (fun b=>b=l\/Z b) g4 (by
     have I:=HL.out;have O:=U.out;rintro (h | h)
     ·omega
     ·have:=HZ.out _ h;omega) (fun b hb=>by
     have I:=HL.out;have O:=U.out;rcases hb with h | h
     ·omega
     ·have:=HZ.out _ h;omega) i7 i8 i9
    have k3:=zh f8
    have G:Hid (∀r∈D,W1.heap.size<=r/\r<wp.heap.size):=fun r hr=>⟨(b4.out r hr).1,by
     have I:=(En.1 (b4.out r hr).2).1;have O:=U.out;omega⟩
    have k2:Hid (J (1+PT.sizeL (kids.take k)+0) wp/\zi (fun b=>b=l\/Z b) W1 wp/\∀r∈D,wp.heap[r]?=some (.deferred (some []))):=⟨HJ.out _ _ _ hj.out (a7.mono (by have:=U.out;omega)),c6.out.ext_r a7,fun r hr=>(a7.block _ (by have:=(En.1 (b4.out r hr).2).1;omega)).trans (b4.out r hr).2⟩;have n2:Hid (N<=4000000000000000000):=by (show _<=_);omega
    clear f6 g7 g4 f8 i7 i8 i9 l5 m0 m1 m2 f0 e9
    gi_wp2_with fail
    refine wpIn_loopZ (gf:=159) (lb:=#[.pointer (some ⟨gx,0,none⟩)]) rfl (enters_of Tryz.func159 (by kernel_rfl) rfl) (Z:=fun b=>b=l\/Z b) (fun b hb=>by
     have I:=HL.out;have O:=U.out;rcases hb with h | h
     ·omega
     ·have:=HZ.out _ h;omega) (k3.out _) (zb.refl wp) (fun _=>rfl)
     (fun j W'=>J (1+PT.sizeL (kids.take k)+j) W'/\zi (fun b=>b=l\/Z b) W1 W'/\∀r∈D,W'.heap[r]?=some (.deferred (some [])))
     (fun c W'=>c=.ret/\Jx W'/\∀r∈D,W'.heap[r]?=some (.deferred (some [])))
     ?hI ?hIx (fun j x a W'=>∃(gx2:Nat) (t:Int) (A:Option Addr) (n c:Nat) (B:Option Addr) (k d:Nat),x=.agg #[.int .i64 t,.slice A n c,.slice B k d]/\a.tmps.size=25/\a.defers=[]/\a.tmps.getD 2 undef=.pointer (some ⟨gy,0,none⟩)/\a.tmps.getD 5 undef=.pointer (some ⟨gx2,0,none⟩)/\ze W' gx2 41 #[.int .i64 t,.slice A n c,.slice B k d]) ?hG k2.out ?assign ?body ?done ?stop
    case hI=>
     rintro j A B ⟨I,O,h3⟩ V;have hs:=U.out;exact ⟨HJ.out _ _ _ I (V.mono (by omega)),O.belowR V (by omega),fun r hr=>(V.block _ (G.out r hr).2).trans (h3 r hr)⟩
    case hIx=>
     rintro c A B ⟨I,O,h3⟩ V;have hs:=U.out;exact ⟨I,d7.out _ _ O (V.mono (by omega)),fun r hr=>(V.block _ (G.out r hr).2).trans (h3 r hr)⟩
    case hG=>
     rintro j x a A l' ⟨gx2,a0,a1,a2,a3,a4,a5,a6,I,O,h3,h4,h5,hb⟩ _ _ ⟨r,hr⟩ o;exact ⟨gx2,a0,a1,a2,a3,a4,a5,a6,I,O,h3,h4,h5,cell_loop hb hr o⟩
    case assign=>
     rintro l2 j x W0 K l6 hi ⟨a0,a1,a2,a3,a4,a5,a6,rfl⟩ hs hK;clear hi;rw [fold_one];simp only [List.setIfInBounds_toArray,List.set_cons_zero,List.set_cons_succ]
     gi_wp2_with fail
     refine hK _ _ ((zb.refl W0).alloc (.cells #[.int .i64 a0,.slice a1 a2 a3,.slice a4 a5 a6] 41)) ?_;exact ⟨W0.heap.size,a0,a1,a2,a3,a4,a5,a6,rfl,rfl,rfl,rfl,rfl,ze.new W0 #[.int .i64 a0,.slice a1 a2 a3,.slice a4 a5 a6] 41 rfl⟩
    case body=>
     rintro l2 j x ⟨T,Df⟩ W0 l6 ⟨f9,e4,g5⟩ ⟨gx2,a0,a1,a2,a3,a4,a5,a6,rfl,hT,f7,e5,e6,b9⟩ hs ⟨rl,l9⟩;dsimp only at hT f7 e5 e6;subst f7;obtain ⟨x0,x1,x2,x3,x4,x5,x6,x7,x8,x9,x10,x11,x12,x13,x14,x15,x16,x17,x18,x19,x20,x21,x22,x23,x24,rfl⟩:=arr25 T hT;have b5:x2=.pointer (some ⟨gy,0,none⟩):=e5;have m4:x5=.pointer (some ⟨gx2,0,none⟩):=e6;subst b5 m4
     have y0:W0.cell? ⟨gy,0,none⟩=some (.func (.yield l) #[] #[]):=e4.cellk E.out.2 (by
      have I:=HL.out;have O:=k1.out;rintro (h | h)
      ·have:gy=l:=h;omega
      ·have:Z gy:=h;have:=HZ.out _ this;omega)
     have c0:=b9.cell (k:=0) rfl;have c1:=b9.cell (k:=1) rfl;have c2:=b9.cell (k:=2) rfl;have j5:=HY.out (1+PT.sizeL (kids.take k)+j) (.agg #[.int .i64 a0,.slice a1 a2 a3,.slice a4 a5 a6]) W0 (by have:=d8.out;omega) f9 ⟨_,_,_,_,_,_,_,rfl⟩;obtain ⟨fn,tmps,assign,body,j6,hR⟩:=yield_any j5;have HR:=zh hR;have b6:=zh e4;have b8:=zh g5;clear hT e5 e6 j5 hR f9 e4 g5 b9 l9 hs
     gi_wp2_with fail
     refine ⟨fun h=>absurd h (by simp [Fence.wide]),?_⟩;refine (HR.out _).mono ?_;rintro e W2 (⟨rfl,c8,z⟩ | ⟨rfl,b5,i3⟩)
     ·gi_wp2_with fail
      refine ⟨z,c8,b6.out.tr z,fun r hr=>(z.block r ((En.1 (b8.out r hr)).1) ?_).trans (b8.out r hr)⟩;have I:=HL.out;have O:=G.out r hr;have h3:=U.out;rintro (h | h)
      ·omega
      ·have:=HZ.out _ h;omega
     ·gi_wp2_with fail
      refine ⟨fun b g8 l3=>i3 b (by have:=U.out;omega) l3,rfl,b5,fun r hr=>(i3 r ?_ ((En.1 (b8.out r hr)).1)).trans (b8.out r hr)⟩;have O:=G.out r hr;have h3:=U.out;omega
    case done=>
     rintro D0 W3 k9 ⟨i2,h7,b3⟩ b1;have k5:Hid (J (1+PT.sizeL (kids.take (k+1))) W3):=by (show J _ _);rw [d8.out.2.1];exact i2
     have j9:=zh h7
     have d9:Hid (∀r∈D0 :: D,W1.heap.size<=r/\W3.heap[r]?=some (.deferred (some []))):=fun r hr=>by
      rcases Ef.1 hr with rfl | hr
      ·exact ⟨by have:=U.out;omega,b1⟩
      ·exact ⟨(G.out r hr).1,b3 r hr⟩
     have d6:Hid ((D0 :: D).Nodup):=List.nodup_cons.2 ⟨fun h=>by have:=G.out _ h;omega,hD⟩;clear i2 h7 b3 b1
     gi_wp2_with fail
     exact ⟨⟨k+1,D0 :: D,_,_,_,_,_,_,_,_,_,_,_,_,_,_,_,_,_,_,_,_,_,by omega,rfl,d6.out,d9.out,k5.out,j9.out⟩,by simp [intOf];omega⟩
    case stop=>
     rintro D0 c W3 k9 ⟨rfl,j3,b3⟩ b1
     have d9:Hid (∀r∈D0 :: D,W1.heap.size<=r/\W3.heap[r]?=some (.deferred (some []))):=fun r hr=>by
      rcases Ef.1 hr with rfl | hr
      ·exact ⟨by have:=U.out;omega,b1⟩
      ·exact ⟨(G.out r hr).1,b3 r hr⟩
     have d6:Hid ((D0 :: D).Nodup):=List.nodup_cons.2 ⟨fun h=>by have:=G.out _ h;omega,hD⟩;have k7:=zh j3;clear j3 b3 b1
     gi_wp2_with fail
     exact BY rfl (D0 :: D) W1.heap.size _ d6.out d9.out fun w' hw=>⟨⟨_,rfl⟩,.inr (d7.out _ _ k7.out (hw.mono (by have:=U.out;omega)))⟩
   ·obtain rfl:k=kids.length:=by omega
    rw [DC] at hj
    gi_wp2_with fail
    exact BY rfl D W1.heap.size _ hD b4.out fun w' hw=>⟨⟨_,rfl⟩,.inl (HJ.out _ _ _ hj.out (hw.mono (by have:=E.out.1.size;omega)))⟩
theorem Cs (w:World) (hp:Bn w okp vp p) (c9:p.size<=4000000000000000000):
  Calls Tryz.prog 36 #[vp] w fun e w'=>e=.returned (.int .i64 (p.size:Nat))/\zb w w':=by
 refine (callsIn_wide (n:=6)).1 ?_;obtain ⟨As,cs,Ak,ck,rfl,-⟩:=hp.form;have HP:=zh hp;obtain ⟨z,hz⟩:=Ez p.size;have HZ:=zh hz;rw [<-hz] at c9⊢;clear hz hp;refine callsIn_of_wp_marks Tryz.func36 rfl trivial ?_ rfl;simp only [Tryz.ntmps36,List.size_toArray,Ex,Ey,Nat.reduceAdd,Nat.reduceSub,Array.replicate_succ,Array.replicate_zero,List.push_toArray,List.append_toArray,List.nil_append,List.cons_append]
 gi_wp2_with (refine ⟨trivial,?_⟩;gi_at_call 92;refine (callsIn_wide.2 (parts_calls _)).mono ?_;rintro e wp ⟨gx,rfl,D,a9,b0,b1,b2⟩)
 have O:zb w ((w.alloc (.cells #[.int .i64 p.task,.slice As p.side.length cs,.slice Ak p.kids.length ck] 41)).alloc (.cells #[.int .i64 0] 3)):=((zb.refl w).alloc _).alloc _;have a1:((w.alloc (.cells #[.int .i64 p.task,.slice As p.side.length cs,.slice Ak p.kids.length ck] 41)).alloc (.cells #[.int .i64 0] 3)).heap.size=w.heap.size+2:=by simp
 have G:=ze.new (w.alloc (.cells #[.int .i64 p.task,.slice As p.side.length cs,.slice Ak p.kids.length ck] 41)) #[.int .i64 0] 3 (g:=w.heap.size+1) (by simp);generalize (w.alloc (.cells #[.int .i64 p.task,.slice As p.side.length cs,.slice Ak p.kids.length ck] 41)).alloc (.cells #[.int .i64 0] 3)=w1 at O a1 G D a9⊢;have Q:=O.trans D;have J:=G.ext D;obtain ⟨gn,V⟩:∃g,g=w.heap.size+1:=⟨_,rfl⟩;rw [<-V] at G J⊢;have d:Hid (gn=w.heap.size+1/\w1.heap.size=w.heap.size+2/\w1.heap.size<=wp.heap.size):=⟨V,a1,D.size⟩;have a0:=parts_gives p.size p (Dq _) (by have:=HZ.out;omega) wp gx (fun b=>b=gn) ((HP.out.bound.ext Q).keepW (zN.of_below (zb.refl wp)) (fun b U h=>by have h1:=U.2;have h2:b=gn:=h;omega)) (by (show ¬ gx=gn);have:=d.out.2.1;omega) (fun b U=>by have h2:b=gn:=U;have h3:=d.out;omega) b0 b1 b2;rw [<-HZ.out] at a0;have c6:=zh a0;have a2:=zh Q;have b6:=zh J;clear a0 O a1 G D a9 b0 b1 b2 Q J V
 gi_wp2_with fail
 refine wpIn_loopZ (gf:=159) (lb:=#[.pointer (some ⟨gx,0,none⟩)]) rfl (enters_of Tryz.func159 (by kernel_rfl) rfl) (Z:=fun b=>b=gn) (fun b U=>by have h1:=d.out;omega) (c6.out _) (zb.refl wp) (fun _=>rfl)
  (fun j W'=>ze W' gn 3 #[.int .i64 (j:Nat)]/\zi (fun b=>b=gn) wp W')
  (fun c W'=>False)
  ?hI ?hIx (fun j x a W'=>a={ tmps:=#[Value.agg #[.int .i64 p.task,.slice As p.side.length cs,.slice Ak p.kids.length ck],.pointer (some ⟨w.heap.size,0,none⟩),.pointer (some ⟨gn,0,none⟩),.agg #[.int .i64 p.task,.slice As p.side.length cs,.slice Ak p.kids.length ck],.func (.func 159) #[] #[.pointer (some ⟨gx,0,none⟩)],x,undef,undef,undef],defers:=[] }) ?hG ⟨b6.out,zi.refl _ _⟩ ?assign ?body ?done ?stop
 case hI=>
  rintro j A B ⟨h1,h2⟩ a4;have hs:=d.out;exact ⟨h1.below a4 (by omega),h2.belowR a4 (Dq _)⟩
 case hIx=>intro c A B h;exact h.elim
 case hG=>intro j x a A l' h _ _ _ o;exact h
 case assign=>
  intro l2 j x W0 K c8 hi hg hs hK;clear hi;rw [fold_one]
  gi_wp2_with fail
  exact hK _ _ (zb.refl _) rfl
 case body=>
  rintro l2 j x a W0 c8 ⟨E,a6⟩ rfl hs ⟨rl,d4⟩;have c0:=E.cell (k:=0) rfl;have hfz:=E.frozen 0;have a5:=E.set (k:=0) (.int .i64 ((j+1:Nat):Int));have e2:IntKind.i64.wrap ((j:Int)+1)=((j+1:Nat):Int):=by rw [DN];omega
  have b4:=zh a5;have b7:=zh a6;clear E a6 a5 d4 hs
  gi_wp2_with fail
  exact ⟨(zi.refl _ _).set gn 0 _ rfl,b4.out,b7.out.set gn 0 _ rfl⟩
 case done=>
  rintro D0 W3 c7 ⟨I,a7⟩ a8;have c0:=I.cell (k:=0) rfl;have hfz:=I.frozen 0;have b5:Hid (ze (W3.setCell ⟨gn,0,none⟩ (.int .i64 (z:Nat))) gn 3 #[.int .i64 (z:Nat)]):=I.set (k:=0) _;have b8:Hid (zi (fun b=>b=gn) wp (W3.setCell ⟨gn,0,none⟩ (.int .i64 (z:Nat)))):=a7.set gn 0 _ rfl;have b9:Hid ((W3.setCell ⟨gn,0,none⟩ (.int .i64 (z:Nat))).heap[D0]?=some (.deferred (some []))):=(DA W3 ⟨gn,0,none⟩ _ D0 (by have:=d.out;(show D0≠gn);omega)).trans a8;clear I a7 a8
  gi_wp2_with fail
  refine ⟨by simp,.inl ⟨_,_,rfl,run_takeDeferred b9.out,?_⟩⟩;have hS:∀b,b≠D0->((W3.setCell ⟨gn,0,none⟩ (.int .i64 (z:Nat))).putObj D0 (.deferred none)).heap[b]?=(W3.setCell ⟨gn,0,none⟩ (.int .i64 (z:Nat))).heap[b]?:=fun b U=>World.putObj_heap_other U
  have y:=(show ze ((W3.setCell ⟨gn,0,none⟩ (.int .i64 (z:Nat))).putObj D0 (.deferred none)) gn _ _ from (hS gn (by have:=d.out;omega)).trans b5.out).cell (k:=0) rfl;refine ⟨.int .i64 (z:Nat),by simp [results,Tryz.results36,go_sem,y],rfl,?_⟩;have h1:=d.out;have h2:=(b8.out.grown (grownBy_putObj' _ _ (.deferred none)) (fun k e hk=>absurd hk (by have e':D0=k:=Option.some.inj e;omega)));exact Below.trans a2.out (h2.below a2.out.size (fun b U=>by omega))
 case stop=>intro D0 c W3 c7 h;exact h.elim
end
section
open Go.RowKit
attribute [local go_sem ↓] Go.wp_at_zero Go.wp_at_succ
theorem BG {v:Value} {m:MZ} (w:World) (hm:zF w ok v m) (hl:Lens m) (hp:Bn w okp vp p) (b7:p.Lens) (b8:p.size<=4000000000000000000):
  Calls Tryz.prog 29 #[v,vp] w fun e w'=>e=.returned (.bool (Az m p))/\zb w w':=by
 have HM:=zh hm;have HL:=zh hl;have HP:=zh hp;have c9:=zh b7;have b2:=zh b8;obtain ⟨Af,cf,Au,cu,At,ct,rfl,-,-,-⟩:=hm.parts;obtain ⟨As,cs,Ak,ck,rfl,-⟩:=hp.form;clear hm hl hp b7 b8;obtain ⟨R,hR⟩:=Ez (Az m p);rw [<-hR];have HR:=zh hR;clear hR
 go_enter Tryz.func29,Tryz.ntmps29
 go_upto_region 1 with fail;obtain ⟨V,r0,r1,r2,r3,r4,r5⟩:=box6 w (.int .i64 m.w) (.int .i64 m.h) (.int .i64 m.l) (.slice Af m.free.length cf) (.slice Au m.up.length cu) (.slice At m.tasks.length ct);have a9:(w.alloc (.cells #[.int .i64 m.w,.int .i64 m.h,.int .i64 m.l,.slice Af m.free.length cf,.slice Au m.up.length cu,.slice At m.tasks.length ct] 32)).heap.size=w.heap.size+1:=by simp
 generalize w.alloc _=w0 at V r0 r1 r2 r3 r4 r5 a9⊢;obtain ⟨O,p0,p1,p2⟩:=box3 w0 (.int .i64 p.task) (.slice As p.side.length cs) (.slice Ak p.kids.length ck);generalize w0.alloc _=w1 at O p0 p1 p2⊢;rw [a9] at p0 p1 p2;obtain ⟨gm,b5⟩:=Ez w.heap.size;rw [<-b5] at r0 r1 r2 r3 r4 r5 p0 p1 p2⊢;have G:=zh O;have o:=zh (V.trans O);have r0:=fun W h=>r0 W (G.out.trans h)
 have r1:=fun W h=>r1 W (G.out.trans h)
 have r2:=fun W h=>r2 W (G.out.trans h)
 have r3:=fun W h=>r3 W (G.out.trans h)
 have r4:=fun W h=>r4 W (G.out.trans h)
 have r5:=fun W h=>r5 W (G.out.trans h)
 clear b5 V O a9;have hx:zb w1 w1:=zb.refl w1;obtain ⟨ck0,I⟩:∃c,c=AS m:=⟨_,rfl⟩;have b0:=zh I
 have J:Hid (∀W,zb w1 W->Calls Tryz.prog 77 #[.agg #[.int .i64 m.w,.int .i64 m.h,.int .i64 m.l,.slice Af m.free.length cf,.slice Au m.up.length cu,.slice At m.tasks.length ct]] W fun e w'=>e=.returned (.int .i64 ck0)/\zb W w'):=fun W hW=>by
  rw [I];exact Bv W (HM.out.below (o.out.trans hW)) HL.out
 clear I;obtain ⟨z,hz⟩:=Ez p.size;have HZ:=zh hz
 have b3:Hid (∀W,zb w1 W->Calls Tryz.prog 36 #[.agg #[.int .i64 p.task,.slice As p.side.length cs,.slice Ak p.kids.length ck]] W fun e w'=>e=.returned (.int .i64 (z:Nat))/\zb W w'):=fun W hW=>by
  rw [hz];exact Cs W (HP.out.ext (o.out.trans hW)) b2.out
 clear hz;by_cases h0:ck0=0
 ·subst h0;have HC:Hid (AS m=0):=b0.out.symm
  have b1:Hid (∀W,zb w1 W->Calls Tryz.prog 78 #[.agg #[.int .i64 m.w,.int .i64 m.h,.int .i64 m.l,.slice Af m.free.length cf,.slice Au m.up.length cu,.slice At m.tasks.length ct],.slice none 0 0] W fun e w'=>∃a0 a1 a2 a3 a4 a5 a6 a7 a8,e=.returned (.agg #[a0,a1,a2,a3,a4,a5,a6,a7,a8])/\zb W w'/\∀W',zb w' W'->Calls Tryz.prog 79 #[.agg #[a0,a1,a2,a3,a4,a5,a6,a7,a8],.agg #[.int .i64 p.task,.slice As p.side.length cs,.slice Ak p.kids.length ck]] W' fun e w'=>e=.returned (.bool (AE m p []))/\zb W' w'):=fun W hW=>by
   refine (of_calls (ok:=fun b=>ok b) W (HM.out.below (o.out.trans hW)) HL.out HC.out (zk.nil _ _) zr.nil).mono ?_;rintro e w' ⟨vp',rfl,b4,hS⟩;refine ⟨_,_,_,_,_,_,_,_,_,rfl,b4,fun W' hW'=>?_⟩;exact pholds_calls HL.out HC.out 4000000000000000000 _ _ _ _ _ _ _ _ _ _ W' (hS.more hW') zr.nil (HP.out.ext ((o.out.trans hW).trans (b4.trans hW'))) b2.out c9.out
  by_cases h1:0<m.tasks.length
  ·have d5:(0:Int)<(m.tasks.length:Int):=by omega
   by_cases h2:z<=3000
   ·have d6:(z:Int)<=3000:=by omega
    have Q:Hid (R=AE m p []):=by (show _=_);rw [HR.out];unfold Az;rw [Du HC.out,Du h1,<-HZ.out,Du h2];rfl
    obtain ⟨hb,b6⟩:=Ez (AE m p []);rw [<-b6] at b1 Q;clear b6;refine DH (S:=(fun W=>zb w1 W)) AB (hx.drew) fun zH=>?_;have E:zb w1 w1.drew:=zH;clear E;generalize w1.drew=wd at zH⊢;refine zo 0 zH ?_;simp only [zc,Dn];refine zK 1 fun K d=>?_;go_simp;go_at_call 77;refine (J.out _ zH).mono ?_;rintro e w2 ⟨rfl,D⟩;go_simp;refine EA d (zH.trans D) fun zH=>?_;clear d K;try simp only [zc,Dn]
    refine zo 2 zH ?_;refine zo 3 zH ?_;simp only [zc,Dn];refine zo 4 zH ?_;refine zo 5 zH ?_;simp only [zc,Dn];refine zo 6 zH ?_;refine zo 7 zH ?_;simp only [zc,Dn];refine zo 8 zH ?_;refine zo 9 zH ?_;simp only [zc,Dn];refine zo 10 zH ?_;simp only [zc,Dn];refine zK 11 fun K d=>?_;go_simp;go_at_call 36;refine (b3.out _ zH).mono ?_;rintro e w3 ⟨rfl,U⟩;go_simp;refine EA d (zH.trans U) fun zH=>?_;clear d K;try simp only [zc,Dn]
    refine zo 12 zH ?_;refine zo 13 zH ?_;simp only [zc,Dn];refine zo 14 zH ?_;refine zo 15 zH ?_;simp only [zc,Dn];refine zo 17 zH ?_;simp only [zc,Dn];refine zK 16 fun K d=>?_;go_simp;go_at_call 78;refine (b1.out _ zH).mono ?_;rintro e w4 ⟨a0,a1,a2,a3,a4,a5,a6,a7,a8,rfl,d7,HK⟩;have c7:=zh HK;clear HK;go_simp;refine EA d (zH.trans d7) fun zH=>?_;clear d K;try simp only [zc,Dn]
    refine zK 18 fun K d=>?_;go_simp;go_at_call 79;refine (c7.out _ (zb.refl _)).mono ?_;rintro e w5 ⟨rfl,d8⟩;go_simp;refine EA d (zH.trans d8) fun zH=>?_;clear d K;try simp only [zc,Dn]
    refine zo 19 zH ?_;refine zo 20 zH ?_;simp only [zc,Dn];refine DV (by kernel_rfl) ?_ _
    go_wp2_with fail
    go_ret;exact ⟨zl Q.out.symm,o.out.trans zH⟩
   ·have d6:¬ ((z:Int)<=3000):=by omega
    have Q:Hid (R=false):=by (show _=_);rw [HR.out];unfold Az;rw [<-HZ.out,Dv h2];simp
    refine DH (S:=(fun W=>zb w1 W)) AB (hx.drew) fun zH=>?_;have E:zb w1 w1.drew:=zH;clear E;generalize w1.drew=wd at zH⊢;refine zo 0 zH ?_;simp only [zc,Dn];refine zK 1 fun K d=>?_;go_simp;go_at_call 77;refine (J.out _ zH).mono ?_;rintro e w2 ⟨rfl,D⟩;go_simp;refine EA d (zH.trans D) fun zH=>?_;clear d K;try simp only [zc,Dn]
    refine zo 2 zH ?_;refine zo 3 zH ?_;simp only [zc,Dn];refine zo 4 zH ?_;refine zo 5 zH ?_;simp only [zc,Dn];refine zo 6 zH ?_;refine zo 7 zH ?_;simp only [zc,Dn];refine zo 8 zH ?_;refine zo 9 zH ?_;simp only [zc,Dn];refine zo 10 zH ?_;simp only [zc,Dn];refine zK 11 fun K d=>?_;go_simp;go_at_call 36;refine (b3.out _ zH).mono ?_;rintro e w3 ⟨rfl,U⟩;go_simp;refine EA d (zH.trans U) fun zH=>?_;clear d K;try simp only [zc,Dn]
    refine zo 12 zH ?_;refine zo 13 zH ?_;simp only [zc,Dn];refine zo 14 zH ?_;refine Dm 15 zH ?_;simp only [zc,Dn];refine Dm 16 zH ?_;refine Dm 17 zH ?_;simp only [zc,Dn];refine Dm 18 zH ?_;refine zo 19 zH ?_;simp only [zc,Dn];refine zo 20 zH ?_;simp only [zc,Dn];refine DV (by kernel_rfl) ?_ _
    go_wp2_with fail
    go_ret;exact ⟨zl Q.out.symm,o.out.trans zH⟩
  ·have d5:¬ ((0:Int)<(m.tasks.length:Int)):=by omega
   have Q:Hid (R=false):=by (show _=_);rw [HR.out];unfold Az;rw [Dv h1];simp
   have e8:decide (0<m.tasks.length)=false:=Dv h1;refine DH (S:=(fun W=>zb w1 W)) AB (hx.drew) fun zH=>?_;have E:zb w1 w1.drew:=zH;clear E;generalize w1.drew=wd at zH⊢;refine zo 0 zH ?_;simp only [zc,Dn];refine zK 1 fun K d=>?_;go_simp;go_at_call 77;refine (J.out _ zH).mono ?_;rintro e w2 ⟨rfl,D⟩;go_simp;refine EA d (zH.trans D) fun zH=>?_;clear d K;try simp only [zc,Dn]
   refine zo 2 zH ?_;refine zo 3 zH ?_;simp only [zc,Dn];refine zo 4 zH ?_;refine zo 5 zH ?_;simp only [zc,Dn];refine zo 6 zH ?_;refine zo 7 zH ?_;simp only [zc,Dn];refine zo 8 zH ?_;refine zo 9 zH ?_;simp only [zc,Dn];refine Dm 10 zH ?_;refine Dm 11 zH ?_;simp only [zc,Dn];refine Dm 12 zH ?_;refine zo 13 zH ?_;simp only [zc,Dn];refine zo 14 zH ?_;refine Dm 15 zH ?_;simp only [zc,Dn];refine Dm 16 zH ?_;refine Dm 17 zH ?_;simp only [zc,Dn];refine Dm 18 zH ?_;refine zo 19 zH ?_;simp only [zc,Dn];refine zo 20 zH ?_;simp only [zc,Dn];refine DV (by kernel_rfl) ?_ _
   go_wp2_with fail
   go_ret;exact ⟨zl Q.out.symm,o.out.trans zH⟩
 ·have e9:(ck0==0)=false:=by rw [DE];exact h0
  have Q:Hid (R=false):=by (show _=_);rw [HR.out];unfold Az;rw [Dv (by rw [<-b0.out];exact h0)];rfl
  refine DH (S:=(fun W=>zb w1 W)) AB (hx.drew) fun zH=>?_;have E:zb w1 w1.drew:=zH;clear E;generalize w1.drew=wd at zH⊢;refine zo 0 zH ?_;simp only [zc,Dn];refine zK 1 fun K d=>?_;go_simp;go_at_call 77;refine (J.out _ zH).mono ?_;rintro e w2 ⟨rfl,D⟩;go_simp;refine EA d (zH.trans D) fun zH=>?_;clear d K;try simp only [zc,Dn]
  refine zo 2 zH ?_;refine zo 3 zH ?_;simp only [zc,Dn];refine Dm 4 zH ?_;refine Dm 5 zH ?_;simp only [zc,Dn];refine Dm 6 zH ?_;refine Dm 7 zH ?_;simp only [zc,Dn];refine zo 8 zH ?_;refine zo 9 zH ?_;simp only [zc,Dn];refine Dm 10 zH ?_;refine Dm 11 zH ?_;simp only [zc,Dn];refine Dm 12 zH ?_;refine zo 13 zH ?_;simp only [zc,Dn];refine zo 14 zH ?_;refine Dm 15 zH ?_;simp only [zc,Dn];refine Dm 16 zH ?_;refine Dm 17 zH ?_;simp only [zc,Dn];refine Dm 18 zH ?_;refine zo 19 zH ?_;simp only [zc,Dn];refine zo 20 zH ?_;simp only [zc,Dn];refine DV (by kernel_rfl) ?_ _
  go_wp2_with fail
  go_ret;exact ⟨zl Q.out.symm,o.out.trans zH⟩
end
end Go.Proofs.YtnmkmhpgnpojbaaGreatDoor
