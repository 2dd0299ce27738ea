import Derived.Test.YtcnaogdgjkpkmaaGreatDoorWCm
set_option linter.unusedVariables false
set_option linter.unusedSimpArgs false
set_option maxRecDepth 100000
set_option maxHeartbeats 16000000
namespace Go.Proofs.YtcnaogdgjkpkmaaGreatDoor
variable {l:Nat} {ok okp:Nat->Prop} {p:PT} {P:Program} {vp:Value} {W w:World}
section
open Go.RowKit
def GivesZ {α:Type} (n:Nat) (P:Program) (g:Nat) (lb:Array Value) (encs:α->Array Value) (G:Nat->α->World->Prop) (N:Nat) (Z:Nat->Prop) (w:World):Prop:=
 ∀(l:Nat) (J:Nat->World->Prop) (Jx:World->Prop) (W:World),za w W->w.heap.size<=l->l<W.heap.size->(∀k A B,J k A->Below W.heap.size A B->J k B)->(∀A B,Jx A->Below W.heap.size A B->Jx B)->
  (∀k x W1,k<N->J k W1->G k x W1->YieldAt Fence.wide (n - 1) P l (encs x) W1 fun e W'=>(e=.returned (.bool true)/\J (k+1) W'/\zd (fun b=>b=l\/Z b) W1 W')\/(e=.returned (.bool false)/\Jx W'/\∀b,W.heap.size<=b->b<W1.heap.size->W'.heap[b]?=W1.heap[b]?))->
  J 0 W->
  CallsIn Fence.wide n P g (#[.func (.yield l) #[] #[]]++lb) W fun e W'=>(∃v,e=.returned v)/\(J N W'\/Jx W')
def postZ (B k:Nat) (I:Nat->World->Prop) (Ix:Code->World->Prop) (Z:Nat->Prop) (W:World):Exit->Act->World->Prop
 | .normal,_,W'=>zd Z W W'/\I (k+1) W'
 | .ret,_,W'=>(∀b,B<=b->b<W.heap.size->W'.heap[b]?=W.heap[b]?)/\Ix .ret W'
 | .exit id,_,W'=>(∀b,B<=b->b<W.heap.size->W'.heap[b]?=W.heap[b]?)/\Ix (.exit id) W'
 | .goto t,_,W'=>(∀b,B<=b->b<W.heap.size->W'.heap[b]?=W.heap[b]?)/\Ix (.goto t) W'
 | .panic _,_,_=>False
 | .outgrown,_,_=>False
theorem wpIn_loopZ {n:Nat} {α:Type} {g:Operand} {ps:Array Tmp} {assign body:Code} {Q:Exit->Act->World->Prop} {a:Act}
  {gf:Nat} {lb:Array Value} (hg:a.eval g=.func (.func gf) #[] lb) (eg:∀args w,(callFunc gf args).run P w=.ok (.enter gf args) w)
  {encs:α->Array Value} {G:Nat->α->World->Prop} {N:Nat} {w0:World} {Z:Nat->Prop} (hZ:∀b,Z b->b<w.heap.size) (b8:GivesZ (n - 1) P gf lb encs G N Z w0) (b5:za w0 w) (d4:∀x,(encs x).size=ps.size)
  (I:Nat->World->Prop) (Ix:Code->World->Prop) (hI:∀k A B,I k A->Below w.heap.size A B->I k B) (hIx:∀c A B,Ix c A->Below w.heap.size A B->Ix c B)
  (Ax:Nat->α->Act->World->Prop) (c0:∀k x a A l,Ax k x a A->w.heap.size<l->l<A.heap.size->(∃r,A.heap[l]?=some (.loop r))->∀o,Ax k x a (A.putObj l o)) (h0:I 0 w)
  (a4:∀(l k:Nat) (x:α) (W:World) (K:Act->World->Prop),k<N->I k W->G k x W->w.heap.size<W.heap.size->(∀a' W',za W W'->Ax k x a' W'->K a' W')->
   assign.wpIn (Fence.wide.inRound l) (n - 1 - 1) P (Exit.then K (fun _ _ _=>False)) { tmps:=(ps.zip (encs x)).foldl (fun t (p,v)=>t.setIfInBounds p v) a.tmps,defers:=[] } W)
  (b0:∀(l k:Nat) (x:α) (a':Act) (W:World),k<N->I k W->Ax k x a' W->w.heap.size<W.heap.size->(∃r,W.heap[w.heap.size+1]?=some (.loop r))->body.wpIn (Fence.wide.inRound l) (n - 1 - 1) P (postZ w.heap.size k I Ix Z W) a' W)
  (b1:∀(D:Nat) (W:World),w.heap.size<=D->I N W->W.heap[D]?=some (.deferred (some []))->Q .normal { a with defers:={ target:=.collected D,args:=#[] } :: a.defers } W)
  (b3:∀(D:Nat) (c:Code) (W:World),w.heap.size<=D->Ix c W->W.heap[D]?=some (.deferred (some []))->c.wpIn Fence.wide n P Q { a with defers:={ target:=.collected D,args:=#[] } :: a.defers } W):
  (Code.rangeFunc g ps assign body).wpIn Fence.wide n P Q a w:=by
 refine wpIn_rangeFunc ?_;intro fn hfn;obtain ⟨rec,z⟩:∃rec:LoopState->Option Code->Loop,rec=fun st pe=>{ state:=st,pending:=pe,fn,tmps:=a.tmps,params:=ps,assign,body,defers:=w.heap.size }:=⟨_,rfl⟩
 obtain ⟨W1,a2⟩:∃W1,(w.alloc (.deferred (some []))).alloc (.loop (rec .ready none))=W1:=⟨_,rfl⟩;have e1:W1.heap.size=w.heap.size+2:=by rw [<-a2];simp
 have c7:W1.heap[w.heap.size+1]?=some (.loop (rec .ready none)):=by
  rw [<-a2];have:=World.alloc_heap_new (w.alloc (.deferred (some []))) (.loop (rec .ready none))
  rwa [World.size_alloc] at this
 have c6:W1.heap[w.heap.size]?=some (.deferred (some [])):=by
  rw [<-a2];exact (Below.heap_alloc _ _ _ (by simp)).trans (World.alloc_heap_new w _)
 have b4:za w W1:=by rw [<-a2];exact ((za.refl w).alloc _).alloc _
 refine ⟨w.heap.size+1,[{ target:=.collected w.heap.size,args:=#[] }],W1,{ target:=.fn (.func gf) lb,args:=#[.func (.yield (w.heap.size+1)) #[] #[]] },W1,gf,
  #[.func (.yield (w.heap.size+1)) #[] #[]]++lb,W1,?_,?_,fun _ _=>trivial,?_,fun h=>absurd h (by simp [Fence.wide]),?_⟩
 ·rw [<-a2,z];exact run_enterLoop_outer _ _ _ _ _
 ·simp only [resolve,hg];simp [go_sem]
 ·simp [invoke,go_sem,eg]
 ·refine (b8 (w.heap.size+1)
   (fun k W=>I k W/\W.heap[w.heap.size+1]?=some (.loop (rec .ready none))/\W.heap[w.heap.size]?=some (.deferred (some []))/\w.heap.size+1<W.heap.size)
   (fun W=>∃c,Ix c W/\W.heap[w.heap.size+1]?=some (.loop (rec .done (some c)))/\W.heap[w.heap.size]?=some (.deferred (some [])))
   W1 (b5.trans b4) (by have:=b5.size;omega) (by omega) ?_ ?_ ?_ ⟨hI _ _ _ h0 b4,c7,c6,by omega⟩).mono ?_
  ·rintro k A B ⟨h1,h2,h3,h4⟩ M;exact ⟨hI _ _ _ h1 (M.mono (by omega)),(M.block _ (by omega)).trans h2,(M.block _ (by omega)).trans h3,Dz h4 M.size⟩
  ·rintro A B ⟨c,h1,h2,h3⟩ M;exact ⟨c,hIx _ _ _ h1 (M.mono (by omega)),(M.block _ (by omega)).trans h2,(M.block _ (by omega)).trans h3⟩
  ·-- one round
   rintro k x W b7 ⟨hi,hl,hD,L⟩ c9;have hy:=run_yield (P:=P) (args:=encs x) hl (by rw [z];exact d4 x);rw [z] at hy;refine ⟨fn,_,assign,body,hy,roundIn_of_wpIn hfn (a4 _ k x W _ b7 hi c9 (Nat.lt_trans (Nat.lt_succ_self _) L) (fun a' Wa V c8=>?_))⟩;have hl:=(V.block _ L).trans hl;have hD:=(V.block _ (by omega)).trans hD;have hi:=hI _ _ _ hi (V.mono (by omega));have d6:=L;have L:w.heap.size+1<Wa.heap.size:=Dz L V.size;refine ⟨_,run_beginRound hl (by rw [z]),?_⟩;have a1:(Wa.putObj (w.heap.size+1) (.loop { rec .ready none with state:=.busy })).heap[w.heap.size+1]?=some (.loop { rec .ready none with state:=.busy }):=World.putObj_heap_same L;have a6:(Wa.putObj (w.heap.size+1) (.loop { rec .ready none with state:=.busy })).heap[w.heap.size]?=some (.deferred (some [])):=(World.putObj_heap_other (by omega)).trans hD;have O:w.heap.size+1<(Wa.putObj (w.heap.size+1) (.loop { rec .ready none with state:=.busy })).heap.size:=(DN.1 a1).1;have b2:Wa.grownBy (Wa.putObj (w.heap.size+1) (.loop { rec .ready none with state:=.busy })) (some (w.heap.size+1)):=grownBy_putObj' _ _ _;refine wpIn_mono (b0 _ k x a' _ b7 (hI _ _ _ hi (Ad _ (by omega) L)) (c0 _ _ _ _ _ c8 (by omega) L ⟨_,hl⟩ _) (Nat.lt_trans (Nat.lt_succ_self _) O) ⟨_,a1⟩) ?_;generalize Wa.putObj (w.heap.size+1) (.loop { rec .ready none with state:=.busy })=W2 at*
   have fin:∀(jump:Option Code) (W3:World),W3.heap[w.heap.size+1]?=some (.loop { rec .ready none with state:=.busy })->
     (Instr.endRound (w.heap.size+1) jump).run P W3=.ok (.bool jump.isNone) (W3.putObj (w.heap.size+1) (.loop (rec (if jump.isNone then .ready else .done) jump))):=fun jump W3 J=>by
    have:=run_endRound (P:=P) jump J;rw [z] at this⊢;exact this
   have keep:∀W3:World,(∀b,w.heap.size<=b->b<W2.heap.size->W3.heap[b]?=W2.heap[b]?)->∀(o:Obj) (b:Nat),W1.heap.size<=b->b<W.heap.size->(W3.putObj (w.heap.size+1) o).heap[b]?=W.heap[b]?:=fun W3 E o b d9 b6=>by
    have h1:b<Wa.heap.size:=Dz b6 V.size;have h2:=b2.size;exact (World.putObj_heap_other (by omega)).trans ((E b (by omega) (by omega)).trans ((b2.block b h1 (fun e=>by injection e;omega)).trans (V.block b b6)))
   rintro e a3 W3 hp
   cases e with
   | normal=>
    obtain ⟨a9,a0⟩:=hp;have J:=(a9.block _ O (fun h=>by have:=hZ _ h;omega)).trans a1;have d:=(DN.1 J).1;have U:=(a9.block _ (by omega) (fun h=>by have:=hZ _ h;omega)).trans a6;refine ⟨_,_,fin none W3 J,.inl ⟨rfl,⟨hI _ _ _ a0 (Ad _ (by omega) d),World.putObj_heap_same d,(World.putObj_heap_other (by omega)).trans U,?_⟩,?_⟩⟩
    ·exact (DN.1 (World.putObj_heap_same d)).1
    ·exact (((zd.of_ext (X:=fun b=>b=w.heap.size+1\/Z b) V).grown b2 (fun k e _=>by injection e with e;exact .inl e.symm)).trans a9 (fun k _ h=>.inr h)).grown (grownBy_putObj' _ _ _) (fun k e _=>by injection e with e;exact .inl e.symm)
   | ret=>
    obtain ⟨E,a0⟩:=hp;have J:=(E _ (by omega) O).trans a1;have d:=(DN.1 J).1;have U:=(E _ (CY _) (by omega)).trans a6;exact ⟨_,_,fin (some .ret) W3 J,.inr ⟨rfl,⟨.ret,hIx _ _ _ a0 (Ad _ (by omega) d),World.putObj_heap_same d,(World.putObj_heap_other (by omega)).trans U⟩,keep W3 E _⟩⟩
   | exit id=>
    obtain ⟨E,a0⟩:=hp;have J:=(E _ (by omega) O).trans a1;have d:=(DN.1 J).1;have U:=(E _ (CY _) (by omega)).trans a6;exact ⟨_,_,fin (some (.exit id)) W3 J,.inr ⟨rfl,⟨.exit id,hIx _ _ _ a0 (Ad _ (by omega) d),World.putObj_heap_same d,(World.putObj_heap_other (by omega)).trans U⟩,keep W3 E _⟩⟩
   | goto t=>
    obtain ⟨E,a0⟩:=hp;have J:=(E _ (by omega) O).trans a1;have d:=(DN.1 J).1;have U:=(E _ (CY _) (by omega)).trans a6;exact ⟨_,_,fin (some (.goto t)) W3 J,.inr ⟨rfl,⟨.goto t,hIx _ _ _ a0 (Ad _ (by omega) d),World.putObj_heap_same d,(World.putObj_heap_other (by omega)).trans U⟩,keep W3 E _⟩⟩
   | panic ch=>exact hp.elim
   | outgrown=>exact hp.elim
  ·-- behind the iterator
   rintro e W2 ⟨⟨v,rfl⟩,(⟨hi,hl,hD,L⟩ | ⟨c,hi,hl,hD⟩)⟩
   ·exact ⟨none,_,by have:=run_endLoop (P:=P) hl (by rw [z];simp);rw [z] at this;exact this,b1 _ _ (CY _) (hI _ _ _ hi (Ad _ (by omega) L)) ((World.putObj_heap_other (by omega)).trans hD)⟩
   ·have L:=(DN.1 hl).1;exact ⟨some c,_,by have:=run_endLoop (P:=P) hl (by rw [z];simp);rw [z] at this;exact this,b3 _ c _ (CY _) (hIx _ _ _ hi (Ad _ (by omega) L)) ((World.putObj_heap_other (by omega)).trans hD)⟩
end
section
open Go.RowKit
attribute [local go_sem ↓] Go.wp_at_zero Go.wp_at_succ
attribute [local go_sem] Oper.semAt_some
theorem yield_any {m:Nat} {args:Array Value} {R:Ending->World->Prop} (h:YieldAt Fence.wide m P l args W R):
  ∃fn tmps assign body,(Instr.yield l args).run P W=.ok (.round l fn tmps assign body) W/\∀m',RoundIn Fence.wide m' P l fn tmps assign body W R:=by
 obtain ⟨fn,tmps,assign,body,o,d⟩:=h;exact ⟨fn,tmps,assign,body,o,fun m'=>⟨d.1,fun c cs _=>d.2 c cs (room_wide _)⟩⟩
def Marks (D:List Nat):List Deferred:=D.map fun r=>{ target:=.collected r,args:=#[] }
theorem BH {F:Fence} {n:Nat} {P:Program} {fn:Func} {tmps:Array Value} {R:Ending->World->Prop} (I:fn.results=#[]):∀(D:List Nat) (B:Nat) (w:World),D.Nodup->(∀r∈D,B<=r/\w.heap[r]?=some (.deferred (some [])))->(∀w',Below B w w'->R (.returned (.tuple #[])) w')->LeavesInM F n P fn tmps R (Marks D) .returning w
 | [],B,w,_,_,h=>by
  unfold Marks LeavesInM LeavesIn;exact ⟨_,results_none I _ _ _,h w (Below.refl _ w)⟩
 | r :: D,B,w,z,E,h=>by
  obtain ⟨J,G⟩:=E r (DH ..);have o:=(DN.1 G).1;refine ⟨by simp,.inl ⟨_,_,rfl,run_takeDeferred G,?_⟩⟩;rw [List.nodup_cons] at z;refine BH I D B _ z.2 (fun r' d=>?_) (fun w' K=>h w' ((Ad _ J o).trans K));obtain ⟨h1,h2⟩:=E r' (Dt _ d);exact ⟨h1,(World.putObj_heap_other (fun e:r'=r=>z.1 (by rw [<-e];exact d))).trans h2⟩
theorem zd.belowR {X:Nat->Prop} {a b c:World} {B:Nat} (h:zd X a b) (d:Below B b c) (r:a.heap.size<=B):zd X a c:=
 h.trans (X':=fun k=>B<=k) ⟨d.os,d.tape,d.output,d.size,fun k o z=>d.block k (by omega)⟩ (fun k o h=>absurd h (by omega))
theorem arr25 (T:Array Value) (h:T.size=25):∃x0 x1 x2 x3 x4 x5 x6 x7 x8 x9 x10 x11 x12 x13 x14 x15 x16 x17 x18 x19 x20 x21 x22 x23 x24,T=#[x0,x1,x2,x3,x4,x5,x6,x7,x8,x9,x10,x11,x12,x13,x14,x15,x16,x17,x18,x19,x20,x21,x22,x23,x24]:=by
 obtain ⟨l⟩:=T
 match l,h with
 | [x0,x1,x2,x3,x4,x5,x6,x7,x8,x9,x10,x11,x12,x13,x14,x15,x16,x17,x18,x19,x20,x21,x22,x23,x24],_=>exact ⟨_,_,_,_,_,_,_,_,_,_,_,_,_,_,_,_,_,_,_,_,_,_,_,_,_,rfl⟩
theorem cell_loop {g:Nat} {r:Loop} {t:TypeId} {cs:Array Value} (h:ze W g t cs) (z:W.heap[l]?=some (.loop r)) (o:Obj):ze (W.putObj l o) g t cs:=by
 refine (World.putObj_heap_other ?_).trans h;rintro rfl;have d:W.heap[g]?=some (.cells cs t):=h;rw [z] at d
 cases d
theorem fold_one (p:Tmp) (v:Value) (T:Array Value):(#[p].zip #[v]).foldl (fun t (p,v)=>t.setIfInBounds p v) T=T.setIfInBounds p v:=by
 simp
theorem sizeL_take:∀(l:List PT) (k:Nat) (d:k<l.length),PT.sizeL (l.take (k+1))=PT.sizeL (l.take k)+(l[k]).size
 | [],k,d=>by simp at d
 | x :: l,0,d=>by simp [PT.sizeL]
 | x :: l,k+1,d=>by
  have h:=sizeL_take l k (by simpa using d);simp only [List.take_succ_cons,PT.sizeL,List.getElem_cons_succ];omega
theorem size_pos (p:PT):1<=p.size:=by cases p;unfold PT.size;omega
theorem sizeL_len:∀(l:List PT),l.length<=PT.sizeL l
 | []=>CY _
 | x :: l=>by
  have h1:=sizeL_len l;have h2:=size_pos x;simp only [DV,PT.sizeL];omega
theorem sizeL_le:∀(l:List PT) (k:Nat),PT.sizeL (l.take k)<=PT.sizeL l
 | [],k=>by simp [PT.sizeL]
 | x :: l,0=>by simp [PT.sizeL]
 | x :: l,k+1=>by
  have h:=sizeL_le l k;simp only [List.take_succ_cons,PT.sizeL];omega
theorem zV.inv {t:Int} {vs vk:Value} (h:zV w ok (.agg #[.int .i64 t,vs,vk]) p):∃side kids cs,p=.node t side kids/\zk w ok vs side/\Ay w ok 3 vk kids.length cs/\
  ∀(i:Nat) (o:i<kids.length),zV w ok (.agg #[cs.getD (i*3) undef,cs.getD (i*3+1) undef,cs.getD (i*3+2) undef]) kids[i]:=by
 cases h with
 | mk h1 h2 d=>exact ⟨_,_,_,rfl,h1,h2,d⟩
theorem parts_calls {a0 a1 a2:Value} (w:World):
  Calls Tryz.prog 59 #[.agg #[a0,a1,a2]] w fun e w'=>∃gl,e=.returned (.func (.func 97) #[] #[.pointer (some ⟨gl,0,none⟩)])/\za w w'/\w.heap.size<=gl/\w'.cell? ⟨gl,0,none⟩=some a0/\w'.cell? ⟨gl,1,none⟩=some a1/\w'.cell? ⟨gl,2,none⟩=some a2:=by
 go_enter Tryz.func59,Tryz.ntmps59
 go_wp2;go_ret;have d:=ze.new w #[a0,a1,a2] 27 (g:=w.heap.size) rfl;exact ⟨_,rfl,(za.refl w).alloc _,CY _,d.cell (k:=0) rfl,d.cell (k:=1) rfl,d.cell (k:=2) rfl⟩
theorem parts_gives:∀(N:Nat) (p:PT),p.size<=N->N<=4000000000000000000->∀{t:Int} {vs vk:Value} (w:World) (gl:Nat) (Z:Nat->Prop),zV w (fun b=>¬ Z b) (.agg #[.int .i64 t,vs,vk]) p->¬ Z gl->(∀b,Z b->b<w.heap.size)->
  w.cell? ⟨gl,0,none⟩=some (.int .i64 t)->w.cell? ⟨gl,1,none⟩=some vs->w.cell? ⟨gl,2,none⟩=some vk->∀n,GivesZ n Tryz.prog 97 #[.pointer (some ⟨gl,0,none⟩)] (fun x:Value=>#[x]) (fun k x W=>∃(t:Int) (A:Option Addr) (n c:Nat) (B:Option Addr) (k d:Nat),x=.agg #[.int .i64 t,.slice A n c,.slice B k d]) p.size Z w:=by
 intro N
 induction N with
 | zero=>intro p hp;have:=size_pos p;omega
 | succ N ih=>
  intro p l6 n5 t vs vk w gl Z hp g9 hZ e3 g5 g6 n;obtain ⟨side,kids,cs,rfl,hs,hk,he⟩:=hp.bound.inv;have IH:=zh ih;intro l J Jx W hW i8 i1 hJ f6 hY h0;have l8:(PT.node t side kids).size=1+PT.sizeL kids:=by unfold PT.size;rfl
  rw [l8] at l6 hY⊢;have n8:=sizeL_len kids;obtain ⟨Ak,ck,rfl,n6,i6⟩:=hk;obtain ⟨As0,cs0,rfl,-,-⟩:=hs;have e9:=zh i6;have HE:=zh he;have HJ:=zh hJ;have HY:=zh hY;have HZ:=zh hZ;have HG:=zh g9;have HW:=zh hW;have HL:Hid (w.heap.size<=l/\l<W.heap.size/\gl<w.heap.size):=⟨i8,i1,zA e3⟩;have d0:=hW.cell e3;have d1:=hW.cell g5;have d2:=hW.cell g6;have e0:=za.rule d0;have e1:=za.rule d1;have e2:=za.rule d2;have e6:za W W:=za.refl W;have e5:=BT W;clear d0 d1 d2;have h7:=hJ 0 W _ h0 ((za.refl W).alloc (.cells #[.func (.yield l) #[] #[]] 72));have g4:ze (W.alloc (.cells #[.func (.yield l) #[] #[]] 72)) W.heap.size 72 _:=ze.new W #[.func (.yield l) #[] #[]] 72 rfl;have j0:=hY 0 (.agg #[.int .i64 t,.slice As0 side.length cs0,.slice Ak kids.length ck]) _ (by omega) h7 ⟨_,_,_,_,_,_,_,rfl⟩;obtain ⟨fn,tmps,assign,body,j2,hR⟩:=yield_any j0;have HR:=zh hR;clear hp he i6 hJ hY hZ g9 hW i8 i1 h0 e3 g5 g6 hR j0 h7 ih;refine callsIn_of_wp_marks Tryz.func97 rfl trivial ?_ rfl;simp only [Tryz.ntmps97,List.size_toArray,DV,DW,Nat.reduceAdd,Nat.reduceSub,Array.replicate_succ,Array.replicate_zero,List.push_toArray,List.append_toArray,List.nil_append,List.cons_append];have c9:=zh f6;clear f6 g4
  gi_wp2_with fail
  refine ⟨fun h=>absurd h (by simp [Fence.wide]),?_⟩;refine (HR.out _).mono ?_;clear HR j2;have E:Hid (za W (W.alloc (.cells #[.func (.yield l) #[] #[]] 72))/\(W.alloc (.cells #[.func (.yield l) #[] #[]] 72)).cell? ⟨W.heap.size,0,none⟩=some (.func (.yield l) #[] #[])):=⟨(za.refl W).alloc _,(ze.new W #[.func (.yield l) #[] #[]] 72 rfl).cell (k:=0) rfl⟩;generalize W.alloc _=W1 at E⊢;obtain ⟨gy,e4⟩:∃g,g=W.heap.size:=⟨_,rfl⟩;rw [<-e4] at E⊢;have j6:Hid (gy=W.heap.size):=e4;clear e4 e5 e6;rintro e W2 (⟨rfl,b8,z⟩ | ⟨rfl,b1⟩)
  case inr=>
   gi_wp2_with fail
   exact BH rfl [] W.heap.size _ List.nodup_nil (fun _ h=>absurd h (DO)) fun w' hw=>⟨⟨_,rfl⟩,.inr (c9.out _ _ b1.1 hw)⟩
  have e8:Hid (J (1+PT.sizeL (kids.take 0)) W2):=by (show J _ _);simpa [PT.sizeL] using b8
  have b2:=zh z
  have f2:W2.cell? ⟨gl,2,none⟩=some (.slice Ak kids.length ck):=z.cellk (e2 W1 E.out.1) (by
   have h1:=HL.out;rintro (h | h)
   ·have:gl=l:=h;omega
   ·exact HG.out h)
  clear b8 z
  gi_wp2_with fail
  clear f2;refine wpIn_loop (fun a wr=>∃(k:Nat) (D:List Nat) (y0 y1 y3 y4 y5 y6 y7 y8 y9 y10 y14 y15 y16 y17 y18 y19 y20 y21 y22 y23 y24:Value),k<=kids.length/\a={ tmps:=#[y0,y1,.pointer (some ⟨gy,0,none⟩),y3,y4,y5,y6,y7,y8,y9,y10,.slice Ak kids.length ck,.int .i64 kids.length,.int .i64 k,y14,y15,y16,y17,y18,y19,y20,y21,y22,y23,y24],defers:=Marks D }/\D.Nodup/\Hid (∀r∈D,W1.heap.size<=r/\wr.heap[r]?=some (.deferred (some [])))/\Hid (J (1+PT.sizeL (kids.take k)) wr)/\Hid (zd (fun b=>b=l\/Z b) W1 wr)) (fun a _=>kids.length - (intOf (a.tmps.getD 13 undef)).toNat) ?atStart ?round
  case atStart=>exact ⟨0,[],_,_,_,_,_,_,_,_,_,_,_,_,_,_,_,_,_,_,_,_,_,Do _,rfl,List.nodup_nil,(fun _ h=>absurd h (DO)),e8.out,b2.out⟩
  clear e8 b2
  case round=>
   rintro a wk ⟨k,D,y0,y1,y3,y4,y5,y6,y7,y8,y9,y10,y14,y15,y16,y17,y18,y19,y20,y21,y22,y23,y24,hk,rfl,hD,a9,hj,b6⟩;by_cases i2:k<kids.length
   ·have m7:(k:Int)<(kids.length:Int):=by omega
    have m6:(0:Int)<=(k:Int):=by omega
    have a7:=HE.out k i2;have i0:=sizeL_take kids k i2;have l5:=sizeL_le kids (k+1);obtain ⟨b0,off0,rfl,l1,U⟩:=e9.out.2 (by omega);have g8:=e9.out.1;obtain ⟨kid,c7⟩:=DX (kids[k]);rw [<-c7] at a7 i0;obtain ⟨As,c1,Ak2,c2,I,-⟩:=a7.form;rw [I] at a7;simp only [Value.agg.injEq,Array.mk.injEq,List.cons.injEq,and_true] at I;obtain ⟨g0,g1,g2⟩:=I
    have b7:∀j,j<cs.length->wk.cell? ⟨b0,off0+j,none⟩=some (cs.getD j undef):=fun j hj=>by
     have h1:=U j (cs.getD j undef) (by rw [CX];rw [CW hj];rfl);refine b6.out.cellk (E.out.1.cell (HW.out.cell h1)) ?_;have h2:=HL.out;rintro (h | h)
     ·have:b0=l:=h;omega
     ·exact l1.1 h
    have m0:=b7 (k*3) (by omega);have m1:=b7 (k*3+1) (by omega);have m2:=b7 (k*3+2) (by omega);rw [g0] at m0;rw [g1,<-Nat.add_assoc] at m1;rw [g2,<-Nat.add_assoc] at m2;have k4:=zh a7;have d4:Hid (kid.size<=N/\1+PT.sizeL (kids.take (k+1))=1+PT.sizeL (kids.take k)+kid.size/\PT.sizeL (kids.take (k+1))<=PT.sizeL kids):=⟨by omega,by omega,by omega⟩;clear b7 g8 U c7 g0 g1 g2 a7 i0 l5;have e6:za wk wk:=za.refl wk;have e5:=BT wk
    gi_wp2_with fail
    refine ⟨trivial,fun h=>absurd h (by simp [Fence.wide]),?_⟩;refine (callsIn_wide.2 (parts_calls _)).mono ?_;rintro e wp ⟨gx,rfl,b9,c6,i3,i4,i5⟩;have O:za wk wp:=((za.refl wk).alloc _).trans b9;have l3:wk.heap.size<=gx:=by simp at c6;omega
    clear b9 c6;have L:Hid (W.heap.size<=W1.heap.size/\W1.heap.size<=wk.heap.size/\wk.heap.size<=wp.heap.size):=⟨E.out.1.size,b6.out.size,O.size⟩;have f1:zd (fun b=>b=l\/Z b) w wp:=((zd.of_ext (X:=fun b=>b=l\/Z b) (HW.out.trans E.out.1)).tr b6.out).ext_r O
    have g3:zK (fun b=>¬ Z b/\b<w.heap.size) w wp:=f1.same (fun b Q=>by
     rintro (h | h)
     ·have h1:=HL.out;have h2:=Q.2;omega
     ·exact Q.1 h)
    have f7:=k4.out.keepW (ok':=fun b=>¬ (b=l\/Z b)) g3 (fun b Q=>by
     rintro (h | h)
     ·have h1:=HL.out;have h2:=Q.2;omega
     ·exact Q.1 h)
    have f4:=IH.out kid d4.out.1 (by omega) wp gx (fun b=>b=l\/Z b) f7 (by
     have h1:=HL.out;have h2:=L.out;rintro (h | h)
     ·omega
     ·have:=HZ.out _ h;omega) (fun b Q=>by
     have h1:=HL.out;have h2:=L.out;rcases Q with h | h
     ·omega
     ·have:=HZ.out _ h;omega) i3 i4 i5
    have j8:=zh f4
    have G:Hid (∀r∈D,W1.heap.size<=r/\r<wp.heap.size):=fun r hr=>⟨(a9.out r hr).1,by
     have h1:=(DN.1 (a9.out r hr).2).1;have h2:=L.out;omega⟩
    have j7:Hid (J (1+PT.sizeL (kids.take k)+0) wp/\zd (fun b=>b=l\/Z b) W1 wp/\∀r∈D,wp.heap[r]?=some (.deferred (some []))):=⟨HJ.out _ _ _ hj.out (O.mono (by have:=L.out;omega)),b6.out.ext_r O,fun r hr=>(O.block _ (by have:=(DN.1 (a9.out r hr).2).1;omega)).trans (a9.out r hr).2⟩;have n0:Hid (N<=4000000000000000000):=by (show _<=_);omega
    clear f1 g3 f7 f4 i3 i4 i5 l3 m0 m1 m2 e6 e5
    gi_wp2_with fail
    refine wpIn_loopZ (gf:=97) (lb:=#[.pointer (some ⟨gx,0,none⟩)]) rfl (enters_of Tryz.func97 (by kernel_rfl) rfl) (Z:=fun b=>b=l\/Z b) (fun b Q=>by
     have h1:=HL.out;have h2:=L.out;rcases Q with h | h
     ·omega
     ·have:=HZ.out _ h;omega) (j8.out _) (za.refl wp) (fun _=>rfl)
     (fun j W'=>J (1+PT.sizeL (kids.take k)+j) W'/\zd (fun b=>b=l\/Z b) W1 W'/\∀r∈D,W'.heap[r]?=some (.deferred (some [])))
     (fun c W'=>c=.ret/\Jx W'/\∀r∈D,W'.heap[r]?=some (.deferred (some [])))
     ?hI ?hIx (fun j x a W'=>∃(gx2:Nat) (t:Int) (A:Option Addr) (n c:Nat) (B:Option Addr) (k d:Nat),x=.agg #[.int .i64 t,.slice A n c,.slice B k d]/\a.tmps.size=25/\a.defers=[]/\a.tmps.getD 2 undef=.pointer (some ⟨gy,0,none⟩)/\a.tmps.getD 5 undef=.pointer (some ⟨gx2,0,none⟩)/\ze W' gx2 27 #[.int .i64 t,.slice A n c,.slice B k d]) ?hG j7.out ?assign ?body ?done ?stop
    case hI=>
     rintro j A B ⟨h1,h2,h3⟩ M;have hs:=L.out;exact ⟨HJ.out _ _ _ h1 (M.mono (by omega)),h2.belowR M (by omega),fun r hr=>(M.block _ (G.out r hr).2).trans (h3 r hr)⟩
    case hIx=>
     rintro c A B ⟨h1,h2,h3⟩ M;have hs:=L.out;exact ⟨h1,c9.out _ _ h2 (M.mono (by omega)),fun r hr=>(M.block _ (G.out r hr).2).trans (h3 r hr)⟩
    case hG=>
     rintro j x a A l' ⟨gx2,a0,a1,a2,a3,a4,a5,a6,h1,h2,h3,h4,h5,Q⟩ _ _ ⟨r,hr⟩ o;exact ⟨gx2,a0,a1,a2,a3,a4,a5,a6,h1,h2,h3,h4,h5,cell_loop Q hr o⟩
    case assign=>
     rintro l2 j x W0 K l4 hi ⟨a0,a1,a2,a3,a4,a5,a6,rfl⟩ hs hK;clear hi;rw [fold_one];simp only [List.setIfInBounds_toArray,List.set_cons_zero,List.set_cons_succ]
     gi_wp2_with fail
     refine hK _ _ ((za.refl W0).alloc (.cells #[.int .i64 a0,.slice a1 a2 a3,.slice a4 a5 a6] 27)) ?_;exact ⟨W0.heap.size,a0,a1,a2,a3,a4,a5,a6,rfl,rfl,rfl,rfl,rfl,ze.new W0 #[.int .i64 a0,.slice a1 a2 a3,.slice a4 a5 a6] 27 rfl⟩
    case body=>
     rintro l2 j x ⟨T,Df⟩ W0 l4 ⟨f5,d7,f8⟩ ⟨gx2,a0,a1,a2,a3,a4,a5,a6,rfl,hT,f3,d8,d9,b5⟩ hs ⟨rl,l7⟩;dsimp only at hT f3 d8 d9;subst f3;obtain ⟨x0,x1,x2,x3,x4,x5,x6,x7,x8,x9,x10,x11,x12,x13,x14,x15,x16,x17,x18,x19,x20,x21,x22,x23,x24,rfl⟩:=arr25 T hT;have b1:x2=.pointer (some ⟨gy,0,none⟩):=d8;have l9:x5=.pointer (some ⟨gx2,0,none⟩):=d9;subst b1 l9
     have y0:W0.cell? ⟨gy,0,none⟩=some (.func (.yield l) #[] #[]):=d7.cellk E.out.2 (by
      have h1:=HL.out;have h2:=j6.out;rintro (h | h)
      ·have:gy=l:=h;omega
      ·have:Z gy:=h;have:=HZ.out _ this;omega)
     have c0:=b5.cell (k:=0) rfl;have c1:=b5.cell (k:=1) rfl;have c2:=b5.cell (k:=2) rfl;have j1:=HY.out (1+PT.sizeL (kids.take k)+j) (.agg #[.int .i64 a0,.slice a1 a2 a3,.slice a4 a5 a6]) W0 (by have:=d4.out;omega) f5 ⟨_,_,_,_,_,_,_,rfl⟩;obtain ⟨fn,tmps,assign,body,j2,hR⟩:=yield_any j1;have HR:=zh hR;have b2:=zh d7;have b4:=zh f8;clear hT d8 d9 j1 hR f5 d7 f8 b5 l7 hs
     gi_wp2_with fail
     refine ⟨fun h=>absurd h (by simp [Fence.wide]),?_⟩;refine (HR.out _).mono ?_;rintro e W2 (⟨rfl,b8,z⟩ | ⟨rfl,b1,h9⟩)
     ·gi_wp2_with fail
      refine ⟨z,b8,b2.out.tr z,fun r hr=>(z.block r ((DN.1 (b4.out r hr)).1) ?_).trans (b4.out r hr)⟩;have h1:=HL.out;have h2:=G.out r hr;have h3:=L.out;rintro (h | h)
      ·omega
      ·have:=HZ.out _ h;omega
     ·gi_wp2_with fail
      refine ⟨fun b g4 l0=>h9 b (by have:=L.out;omega) l0,rfl,b1,fun r hr=>(h9 r ?_ ((DN.1 (b4.out r hr)).1)).trans (b4.out r hr)⟩;have h2:=G.out r hr;have h3:=L.out;omega
    case done=>
     rintro D0 W3 k7 ⟨h8,g7,a8⟩ V;have k3:Hid (J (1+PT.sizeL (kids.take (k+1))) W3):=by (show J _ _);rw [d4.out.2.1];exact h8
     have j5:=zh g7
     have d5:Hid (∀r∈D0 :: D,W1.heap.size<=r/\W3.heap[r]?=some (.deferred (some []))):=fun r hr=>by
      rcases DJ.1 hr with rfl | hr
      ·exact ⟨by have:=L.out;omega,V⟩
      ·exact ⟨(G.out r hr).1,a8 r hr⟩
     have c8:Hid ((D0 :: D).Nodup):=List.nodup_cons.2 ⟨fun h=>by have:=G.out _ h;omega,hD⟩;clear h8 g7 a8 V
     gi_wp2_with fail
     exact ⟨⟨k+1,D0 :: D,_,_,_,_,_,_,_,_,_,_,_,_,_,_,_,_,_,_,_,_,_,by omega,rfl,c8.out,d5.out,k3.out,j5.out⟩,by simp [intOf];omega⟩
    case stop=>
     rintro D0 c W3 k7 ⟨rfl,i9,a8⟩ V
     have d5:Hid (∀r∈D0 :: D,W1.heap.size<=r/\W3.heap[r]?=some (.deferred (some []))):=fun r hr=>by
      rcases DJ.1 hr with rfl | hr
      ·exact ⟨by have:=L.out;omega,V⟩
      ·exact ⟨(G.out r hr).1,a8 r hr⟩
     have c8:Hid ((D0 :: D).Nodup):=List.nodup_cons.2 ⟨fun h=>by have:=G.out _ h;omega,hD⟩;have k5:=zh i9;clear i9 a8 V
     gi_wp2_with fail
     exact BH rfl (D0 :: D) W1.heap.size _ c8.out d5.out fun w' hw=>⟨⟨_,rfl⟩,.inr (c9.out _ _ k5.out (hw.mono (by have:=L.out;omega)))⟩
   ·obtain rfl:k=kids.length:=by omega
    rw [Dl] at hj
    gi_wp2_with fail
    exact BH rfl D W1.heap.size _ hD a9.out fun w' hw=>⟨⟨_,rfl⟩,.inl (HJ.out _ _ _ hj.out (hw.mono (by have:=E.out.1.size;omega)))⟩
theorem psize_calls (w:World) (hp:zV w okp vp p) (b8:p.size<=4000000000000000000):
  Calls Tryz.prog 27 #[vp] w fun e w'=>e=.returned (.int .i64 (p.size:Nat))/\za w w':=by
 refine (callsIn_wide (n:=6)).1 ?_;obtain ⟨As,cs,Ak,ck,rfl,-⟩:=hp.form;have HP:=zh hp;obtain ⟨z,hz⟩:=DX p.size;have HZ:=zh hz;rw [<-hz] at b8⊢;clear hz hp;refine callsIn_of_wp_marks Tryz.func27 rfl trivial ?_ rfl;simp only [Tryz.ntmps27,List.size_toArray,DV,DW,Nat.reduceAdd,Nat.reduceSub,Array.replicate_succ,Array.replicate_zero,List.push_toArray,List.append_toArray,List.nil_append,List.cons_append]
 gi_wp2_with (refine ⟨trivial,?_⟩;gi_at_call 59;refine (callsIn_wide.2 (parts_calls _)).mono ?_;rintro e wp ⟨gx,rfl,r,a5,a6,a7,a8⟩)
 have J:za w ((w.alloc (.cells #[.int .i64 p.task,.slice As p.side.length cs,.slice Ak p.kids.length ck] 27)).alloc (.cells #[.int .i64 0] 3)):=((za.refl w).alloc _).alloc _;have U:((w.alloc (.cells #[.int .i64 p.task,.slice As p.side.length cs,.slice Ak p.kids.length ck] 27)).alloc (.cells #[.int .i64 0] 3)).heap.size=w.heap.size+2:=by simp
 have E:=ze.new (w.alloc (.cells #[.int .i64 p.task,.slice As p.side.length cs,.slice Ak p.kids.length ck] 27)) #[.int .i64 0] 3 (g:=w.heap.size+1) (by simp);generalize (w.alloc (.cells #[.int .i64 p.task,.slice As p.side.length cs,.slice Ak p.kids.length ck] 27)).alloc (.cells #[.int .i64 0] 3)=w1 at J U E r a5⊢;have L:=J.trans r;have I:=E.ext r;obtain ⟨gn,O⟩:∃g,g=w.heap.size+1:=⟨_,rfl⟩;rw [<-O] at E I⊢;have d:Hid (gn=w.heap.size+1/\w1.heap.size=w.heap.size+2/\w1.heap.size<=wp.heap.size):=⟨O,U,r.size⟩;have Q:=parts_gives p.size p (CY _) (by have:=HZ.out;omega) wp gx (fun b=>b=gn) ((HP.out.bound.ext L).keepW (zK.of_below (za.refl wp)) (fun b M h=>by have h1:=M.2;have h2:b=gn:=h;omega)) (by (show ¬ gx=gn);have:=d.out.2.1;omega) (fun b M=>by have h2:b=gn:=M;have h3:=d.out;omega) a6 a7 a8;rw [<-HZ.out] at Q;have b5:=zh Q;have V:=zh L;have b1:=zh I;clear Q J U E r a5 a6 a7 a8 L I O
 gi_wp2_with fail
 refine wpIn_loopZ (gf:=97) (lb:=#[.pointer (some ⟨gx,0,none⟩)]) rfl (enters_of Tryz.func97 (by kernel_rfl) rfl) (Z:=fun b=>b=gn) (fun b M=>by have h1:=d.out;omega) (b5.out _) (za.refl wp) (fun _=>rfl)
  (fun j W'=>ze W' gn 3 #[.int .i64 (j:Nat)]/\zd (fun b=>b=gn) wp W')
  (fun c W'=>False)
  ?hI ?hIx (fun j x a W'=>a={ tmps:=#[Value.agg #[.int .i64 p.task,.slice As p.side.length cs,.slice Ak p.kids.length ck],.pointer (some ⟨w.heap.size,0,none⟩),.pointer (some ⟨gn,0,none⟩),.agg #[.int .i64 p.task,.slice As p.side.length cs,.slice Ak p.kids.length ck],.func (.func 97) #[] #[.pointer (some ⟨gx,0,none⟩)],x,undef,undef,undef],defers:=[] }) ?hG ⟨b1.out,zd.refl _ _⟩ ?assign ?body ?done ?stop
 case hI=>
  rintro j A B ⟨h1,h2⟩ a0;have hs:=d.out;exact ⟨h1.below a0 (by omega),h2.belowR a0 (CY _)⟩
 case hIx=>intro c A B h;exact h.elim
 case hG=>intro j x a A l' h _ _ _ o;exact h
 case assign=>
  intro l2 j x W0 K b7 hi hg hs hK;clear hi;rw [fold_one]
  gi_wp2_with fail
  exact hK _ _ (za.refl _) rfl
 case body=>
  rintro l2 j x a W0 b7 ⟨D,a2⟩ rfl hs ⟨rl,b9⟩;have c0:=D.cell (k:=0) rfl;have hfz:=D.frozen 0;have a1:=D.set (k:=0) (.int .i64 ((j+1:Nat):Int));have d7:IntKind.i64.wrap ((j:Int)+1)=((j+1:Nat):Int):=by rw [Du];omega
  have a9:=zh a1;have b2:=zh a2;clear D a2 a1 b9 hs
  gi_wp2_with fail
  exact ⟨(zd.refl _ _).set gn 0 _ rfl,a9.out,b2.out.set gn 0 _ rfl⟩
 case done=>
  rintro D0 W3 b6 ⟨G,a3⟩ a4;have c0:=G.cell (k:=0) rfl;have hfz:=G.frozen 0;have b0:Hid (ze (W3.setCell ⟨gn,0,none⟩ (.int .i64 (z:Nat))) gn 3 #[.int .i64 (z:Nat)]):=G.set (k:=0) _;have b3:Hid (zd (fun b=>b=gn) wp (W3.setCell ⟨gn,0,none⟩ (.int .i64 (z:Nat)))):=a3.set gn 0 _ rfl;have b4:Hid ((W3.setCell ⟨gn,0,none⟩ (.int .i64 (z:Nat))).heap[D0]?=some (.deferred (some []))):=(Di W3 ⟨gn,0,none⟩ _ D0 (by have:=d.out;(show D0≠gn);omega)).trans a4;clear G a3 a4
  gi_wp2_with fail
  refine ⟨by simp,.inl ⟨_,_,rfl,run_takeDeferred b4.out,?_⟩⟩;have hS:∀b,b≠D0->((W3.setCell ⟨gn,0,none⟩ (.int .i64 (z:Nat))).putObj D0 (.deferred none)).heap[b]?=(W3.setCell ⟨gn,0,none⟩ (.int .i64 (z:Nat))).heap[b]?:=fun b M=>World.putObj_heap_other M
  have y:=(show ze ((W3.setCell ⟨gn,0,none⟩ (.int .i64 (z:Nat))).putObj D0 (.deferred none)) gn _ _ from (hS gn (by have:=d.out;omega)).trans b0.out).cell (k:=0) rfl;refine ⟨.int .i64 (z:Nat),by simp [results,Tryz.results27,go_sem,y],rfl,?_⟩;have h1:=d.out;have h2:=(b3.out.grown (grownBy_putObj' _ _ (.deferred none)) (fun k e hk=>absurd hk (by have e':D0=k:=Option.some.inj e;omega)));exact Below.trans V.out (h2.below V.out.size (fun b M=>by omega))
 case stop=>intro D0 c W3 b6 h;exact h.elim
end
section
open Go.RowKit
attribute [local go_sem ↓] Go.wp_at_zero Go.wp_at_succ
theorem BI {v:Value} {m:MZ} (w:World) (hm:zL w ok v m) (hl:Lens m) (hp:zV w okp vp p) (b3:p.Lens) (b4:p.size<=4000000000000000000):
  Calls Tryz.prog 12 #[v,vp] w fun e w'=>e=.returned (.bool (Bf m p))/\za w w':=by
 have HM:=zh hm;have HL:=zh hl;have HP:=zh hp;have c0:=zh b3;have V:=zh b4;obtain ⟨Af,cf,Au,cu,At,ct,rfl,-,-,-⟩:=hm.parts;obtain ⟨As,cs,Ak,ck,rfl,-⟩:=hp.form;clear hm hl hp b3 b4;obtain ⟨R,hR⟩:=DX (Bf m p);rw [<-hR];have HR:=zh hR;clear hR
 go_enter Tryz.func12,Tryz.ntmps12
 go_upto_region 1 with fail;obtain ⟨M,r0,r1,r2,r3,r4,r5⟩:=box6 w (.int .i64 m.w) (.int .i64 m.h) (.int .i64 m.l) (.slice Af m.free.length cf) (.slice Au m.up.length cu) (.slice At m.tasks.length ct);have O:(w.alloc (.cells #[.int .i64 m.w,.int .i64 m.h,.int .i64 m.l,.slice Af m.free.length cf,.slice Au m.up.length cu,.slice At m.tasks.length ct] 35)).heap.size=w.heap.size+1:=by simp
 generalize w.alloc _=w0 at M r0 r1 r2 r3 r4 r5 O⊢;obtain ⟨I,p0,p1,p2⟩:=box3 w0 (.int .i64 p.task) (.slice As p.side.length cs) (.slice Ak p.kids.length ck);generalize w0.alloc _=w1 at I p0 p1 p2⊢;rw [O] at p0 p1 p2;obtain ⟨gm,b1⟩:=DX w.heap.size;rw [<-b1] at r0 r1 r2 r3 r4 r5 p0 p1 p2⊢;have D:=zh I;have o:=zh (M.trans I);have r0:=fun W h=>r0 W (D.out.trans h)
 have r1:=fun W h=>r1 W (D.out.trans h)
 have r2:=fun W h=>r2 W (D.out.trans h)
 have r3:=fun W h=>r3 W (D.out.trans h)
 have r4:=fun W h=>r4 W (D.out.trans h)
 have r5:=fun W h=>r5 W (D.out.trans h)
 clear b1 M I O;have hx:za w1 w1:=za.refl w1;obtain ⟨ck0,E⟩:∃c,c=Cc m:=⟨_,rfl⟩;have Q:=zh E
 have G:Hid (∀W,za w1 W->Calls Tryz.prog 31 #[.agg #[.int .i64 m.w,.int .i64 m.h,.int .i64 m.l,.slice Af m.free.length cf,.slice Au m.up.length cu,.slice At m.tasks.length ct]] W fun e w'=>e=.returned (.int .i64 ck0)/\za W w'):=fun W hW=>by
  rw [E];exact Bv W (HM.out.below (o.out.trans hW)) HL.out
 clear E;obtain ⟨z,hz⟩:=DX p.size;have HZ:=zh hz
 have a9:Hid (∀W,za w1 W->Calls Tryz.prog 27 #[.agg #[.int .i64 p.task,.slice As p.side.length cs,.slice Ak p.kids.length ck]] W fun e w'=>e=.returned (.int .i64 (z:Nat))/\za W w'):=fun W hW=>by
  rw [hz];exact psize_calls W (HP.out.ext (o.out.trans hW)) V.out
 clear hz;by_cases h0:ck0=0
 ·subst h0;have HC:Hid (Cc m=0):=Q.out.symm
  have U:Hid (∀W,za w1 W->Calls Tryz.prog 32 #[.agg #[.int .i64 m.w,.int .i64 m.h,.int .i64 m.l,.slice Af m.free.length cf,.slice Au m.up.length cu,.slice At m.tasks.length ct],.slice none 0 0] W fun e w'=>∃a0 a1 a2 a3 a4 a5 a6 a7 a8,e=.returned (.agg #[a0,a1,a2,a3,a4,a5,a6,a7,a8])/\za W w'/\∀W',za w' W'->Calls Tryz.prog 33 #[.agg #[a0,a1,a2,a3,a4,a5,a6,a7,a8],.agg #[.int .i64 p.task,.slice As p.side.length cs,.slice Ak p.kids.length ck]] W' fun e w'=>e=.returned (.bool (AB m p []))/\za W' w'):=fun W hW=>by
   refine (of_calls (ok:=fun b=>ok b) W (HM.out.below (o.out.trans hW)) HL.out HC.out (zk.nil _ _) zG.nil).mono ?_;rintro e w' ⟨vp',rfl,b0,hS⟩;refine ⟨_,_,_,_,_,_,_,_,_,rfl,b0,fun W' hW'=>?_⟩;exact pholds_calls HL.out HC.out 4000000000000000000 _ _ _ _ _ _ _ _ _ _ W' (hS.more hW') zG.nil (HP.out.ext ((o.out.trans hW).trans (b0.trans hW'))) V.out c0.out
  by_cases h1:0<m.tasks.length
  ·have c6:(0:Int)<(m.tasks.length:Int):=by omega
   by_cases h2:z<=3000
   ·have c7:(z:Int)<=3000:=by omega
    have J:Hid (R=AB m p []):=by (show _=_);rw [HR.out];unfold Bf;rw [Db HC.out,Db h1,<-HZ.out,Db h2];rfl
    obtain ⟨hb,b2⟩:=DX (AB m p []);rw [<-b2] at U J;clear b2;refine Dp (S:=(fun W=>za w1 W)) An (hx.drew) fun zH=>?_;have B:za w1 w1.drew:=zH;clear B;generalize w1.drew=wd at zH⊢;refine zj 0 zH ?_;simp only [zc,CV];refine Aa 1 fun K d=>?_;go_simp;go_at_call 31;refine (G.out _ zH).mono ?_;rintro e w2 ⟨rfl,r⟩;go_simp;refine DY d (zH.trans r) fun zH=>?_;clear d K;try simp only [zc,CV]
    refine zj 2 zH ?_;refine zj 3 zH ?_;simp only [zc,CV];refine zj 4 zH ?_;refine zj 5 zH ?_;simp only [zc,CV];refine zj 6 zH ?_;refine zj 7 zH ?_;simp only [zc,CV];refine zj 8 zH ?_;refine zj 9 zH ?_;simp only [zc,CV];refine zj 10 zH ?_;simp only [zc,CV];refine Aa 11 fun K d=>?_;go_simp;go_at_call 27;refine (a9.out _ zH).mono ?_;rintro e w3 ⟨rfl,L⟩;go_simp;refine DY d (zH.trans L) fun zH=>?_;clear d K;try simp only [zc,CV]
    refine zj 12 zH ?_;refine zj 13 zH ?_;simp only [zc,CV];refine zj 14 zH ?_;refine zj 15 zH ?_;simp only [zc,CV];refine zj 17 zH ?_;simp only [zc,CV];refine Aa 16 fun K d=>?_;go_simp;go_at_call 32;refine (U.out _ zH).mono ?_;rintro e w4 ⟨a0,a1,a2,a3,a4,a5,a6,a7,a8,rfl,c8,HK⟩;have b8:=zh HK;clear HK;go_simp;refine DY d (zH.trans c8) fun zH=>?_;clear d K;try simp only [zc,CV]
    refine Aa 18 fun K d=>?_;go_simp;go_at_call 33;refine (b8.out _ (za.refl _)).mono ?_;rintro e w5 ⟨rfl,c9⟩;go_simp;refine DY d (zH.trans c9) fun zH=>?_;clear d K;try simp only [zc,CV]
    refine zj 19 zH ?_;refine zj 20 zH ?_;simp only [zc,CV];refine DB (by kernel_rfl) ?_ _
    go_wp2_with fail
    go_ret;exact ⟨zi J.out.symm,o.out.trans zH⟩
   ·have c7:¬ ((z:Int)<=3000):=by omega
    have J:Hid (R=false):=by (show _=_);rw [HR.out];unfold Bf;rw [<-HZ.out,Dc h2];simp
    refine Dp (S:=(fun W=>za w1 W)) An (hx.drew) fun zH=>?_;have B:za w1 w1.drew:=zH;clear B;generalize w1.drew=wd at zH⊢;refine zj 0 zH ?_;simp only [zc,CV];refine Aa 1 fun K d=>?_;go_simp;go_at_call 31;refine (G.out _ zH).mono ?_;rintro e w2 ⟨rfl,r⟩;go_simp;refine DY d (zH.trans r) fun zH=>?_;clear d K;try simp only [zc,CV]
    refine zj 2 zH ?_;refine zj 3 zH ?_;simp only [zc,CV];refine zj 4 zH ?_;refine zj 5 zH ?_;simp only [zc,CV];refine zj 6 zH ?_;refine zj 7 zH ?_;simp only [zc,CV];refine zj 8 zH ?_;refine zj 9 zH ?_;simp only [zc,CV];refine zj 10 zH ?_;simp only [zc,CV];refine Aa 11 fun K d=>?_;go_simp;go_at_call 27;refine (a9.out _ zH).mono ?_;rintro e w3 ⟨rfl,L⟩;go_simp;refine DY d (zH.trans L) fun zH=>?_;clear d K;try simp only [zc,CV]
    refine zj 12 zH ?_;refine zj 13 zH ?_;simp only [zc,CV];refine zj 14 zH ?_;refine rtN 15 zH ?_;simp only [zc,CV];refine rtN 16 zH ?_;refine rtN 17 zH ?_;simp only [zc,CV];refine rtN 18 zH ?_;refine zj 19 zH ?_;simp only [zc,CV];refine zj 20 zH ?_;simp only [zc,CV];refine DB (by kernel_rfl) ?_ _
    go_wp2_with fail
    go_ret;exact ⟨zi J.out.symm,o.out.trans zH⟩
  ·have c6:¬ ((0:Int)<(m.tasks.length:Int)):=by omega
   have J:Hid (R=false):=by (show _=_);rw [HR.out];unfold Bf;rw [Dc h1];simp
   have e2:decide (0<m.tasks.length)=false:=Dc h1;refine Dp (S:=(fun W=>za w1 W)) An (hx.drew) fun zH=>?_;have B:za w1 w1.drew:=zH;clear B;generalize w1.drew=wd at zH⊢;refine zj 0 zH ?_;simp only [zc,CV];refine Aa 1 fun K d=>?_;go_simp;go_at_call 31;refine (G.out _ zH).mono ?_;rintro e w2 ⟨rfl,r⟩;go_simp;refine DY d (zH.trans r) fun zH=>?_;clear d K;try simp only [zc,CV]
   refine zj 2 zH ?_;refine zj 3 zH ?_;simp only [zc,CV];refine zj 4 zH ?_;refine zj 5 zH ?_;simp only [zc,CV];refine zj 6 zH ?_;refine zj 7 zH ?_;simp only [zc,CV];refine zj 8 zH ?_;refine zj 9 zH ?_;simp only [zc,CV];refine rtN 10 zH ?_;refine rtN 11 zH ?_;simp only [zc,CV];refine rtN 12 zH ?_;refine zj 13 zH ?_;simp only [zc,CV];refine zj 14 zH ?_;refine rtN 15 zH ?_;simp only [zc,CV];refine rtN 16 zH ?_;refine rtN 17 zH ?_;simp only [zc,CV];refine rtN 18 zH ?_;refine zj 19 zH ?_;simp only [zc,CV];refine zj 20 zH ?_;simp only [zc,CV];refine DB (by kernel_rfl) ?_ _
   go_wp2_with fail
   go_ret;exact ⟨zi J.out.symm,o.out.trans zH⟩
 ·have e3:(ck0==0)=false:=by rw [Dn];exact h0
  have J:Hid (R=false):=by (show _=_);rw [HR.out];unfold Bf;rw [Dc (by rw [<-Q.out];exact h0)];rfl
  refine Dp (S:=(fun W=>za w1 W)) An (hx.drew) fun zH=>?_;have B:za w1 w1.drew:=zH;clear B;generalize w1.drew=wd at zH⊢;refine zj 0 zH ?_;simp only [zc,CV];refine Aa 1 fun K d=>?_;go_simp;go_at_call 31;refine (G.out _ zH).mono ?_;rintro e w2 ⟨rfl,r⟩;go_simp;refine DY d (zH.trans r) fun zH=>?_;clear d K;try simp only [zc,CV]
  refine zj 2 zH ?_;refine zj 3 zH ?_;simp only [zc,CV];refine rtN 4 zH ?_;refine rtN 5 zH ?_;simp only [zc,CV];refine rtN 6 zH ?_;refine rtN 7 zH ?_;simp only [zc,CV];refine zj 8 zH ?_;refine zj 9 zH ?_;simp only [zc,CV];refine rtN 10 zH ?_;refine rtN 11 zH ?_;simp only [zc,CV];refine rtN 12 zH ?_;refine zj 13 zH ?_;simp only [zc,CV];refine zj 14 zH ?_;refine rtN 15 zH ?_;simp only [zc,CV];refine rtN 16 zH ?_;refine rtN 17 zH ?_;simp only [zc,CV];refine rtN 18 zH ?_;refine zj 19 zH ?_;simp only [zc,CV];refine zj 20 zH ?_;simp only [zc,CV];refine DB (by kernel_rfl) ?_ _
  go_wp2_with fail
  go_ret;exact ⟨zi J.out.symm,o.out.trans zH⟩
theorem ymk1:(makeP (exM 6 8)).1=51:=by rw [make_x (AF.of (by decide +kernel)).dim];exact ym1
theorem ymk2:makeP (exM 4 8)=(0,yP):=by rw [make_x (AF.of (by decide +kernel)).dim];exact ym2
theorem ymk3:makeP (exM 1 7)=(0,BG):=by rw [make_x (AF.of (by decide +kernel)).dim];exact ym3
theorem ysanity_calls (w:World) (hv:z9 w):Calls Tryz.prog 7 #[] w fun e w'=>e=.returned (.bool true)/\za w w':=by
 have HV:=zh hv;clear hv
 go_enter Tryz.func7,Tryz.ntmps7
 go_wp2_with fail
 refine (zY 6 8 w).mono ?_;rintro e w1 ⟨v1,rfl,f9,h4⟩;have B:=CN w1 h4 (Ct 6 8);rw [ymk1] at B;have J:=zh B;have d7:=zh f9;clear B h4 f9
 go_wp2_with fail
 refine J.out.mono ?_;rintro e w2 ⟨v2,rfl,g3,d5⟩;generalize (makeP (exM 6 8)).2=pz at d5;obtain ⟨As,cs,Ak,ck,rfl,-⟩:=d5.form;have d8:Hid (za w w2):=d7.out.trans g3;clear g3 d5 J d7;go_upto_region 2 with fail;obtain ⟨D,-,-,-⟩:=box3 w2 (.int .i64 pz.task) (.slice As pz.side.length cs) (.slice Ak pz.kids.length ck);generalize w2.alloc _=w3 at D⊢;have d9:Hid (za w w3):=d8.out.trans D;clear D d8
 go_wp2_with fail
 refine (zY 4 8 w3).mono ?_;rintro e w4 ⟨v4,rfl,g4,h5⟩;have B:=CN w4 h5 (Ct 4 8);rw [ymk2] at B;have J:=zh B;have e0:Hid (za w w4):=d9.out.trans g4;clear B h5 g4 d9
 go_wp2_with fail
 refine J.out.mono ?_;rintro e w5 ⟨v5,rfl,g5,h7⟩;obtain ⟨p,hp⟩:=DX yP;have a9:zV w5 (fun b=>w4.heap.size<=b) v5 p:=by rw [hp];exact h7
 have HP:=zh hp;obtain ⟨As,cs,Ak,ck,rfl,-⟩:=a9.form;have e1:Hid (za w w5):=e0.out.trans g5;have f1:=zh a9;clear g5 h7 a9 J e0 hp;go_upto_region 3 with fail;obtain ⟨D,p0,p1,p2⟩:=box3 w5 (.int .i64 p.task) (.slice As p.side.length cs) (.slice Ak p.kids.length ck);generalize w5.alloc _=w6 at D p0 p1 p2⊢;obtain ⟨gp,i0⟩:∃g,g=w5.heap.size:=⟨_,rfl⟩;rw [<-i0] at p0 p1 p2⊢;have e2:Hid (za w w6):=e1.out.trans D;have f2:=zh (f1.out.ext D);clear D e1 i0 f1
 go_wp2_with fail
 refine (zY 1 7 w6).mono ?_;rintro e w7 ⟨v7,rfl,g6,h6⟩;have B:=CN w7 h6 (Ct 1 7);rw [ymk3] at B;have J:=zh B;have e3:=zh g6;clear B h6 g6
 go_wp2_with fail
 refine J.out.mono ?_;rintro e w8 ⟨v8,rfl,g7,h8⟩;obtain ⟨q,hq⟩:=DX BG;have b0:zV w8 (fun b=>w7.heap.size<=b) v8 q:=by rw [hq];exact h8
 have L:=zh hq;obtain ⟨Bs,ds,Bk,dk,rfl,-⟩:=b0.form;have e4:Hid (za w6 w8):=e3.out.trans g7;have f4:=zh b0;clear g7 h8 b0 J e3 hq;go_upto_region 4 with fail;obtain ⟨D,q0,q1,q2⟩:=box3 w8 (.int .i64 q.task) (.slice Bs q.side.length ds) (.slice Bk q.kids.length dk);generalize w8.alloc _=w9 at D q0 q1 q2⊢;obtain ⟨gq,i1⟩:∃g,g=w8.heap.size:=⟨_,rfl⟩;rw [<-i1] at q0 q1 q2⊢;have E:=zh (e4.out.trans D);have e5:Hid (za w w9):=e2.out.trans E.out;have a5:=zh (f2.out.ext E.out);have f5:=zh (f4.out.ext D);have p0:=fun W h=>p0 W (E.out.trans h)
 have p1:=fun W h=>p1 W (E.out.trans h)
 have p2:=fun W h=>p2 W (E.out.trans h)
 clear D E e2 e4 f2 f4 i1
 have b7:=zh (show ∀W,za w9 W->Calls Tryz.prog 17 #[.agg #[.int .i64 p.task,.slice As p.side.length cs,.slice Ak p.kids.length ck],.agg #[.int .i64 1,.slice none 0 0,.slice none 0 0]] W fun e w'=>e=.returned (.bool true)/\za W w' from fun W hW=>by
  have h:=AI 1000 W (a5.out.ext hW) (zV.leaf W (fun _=>True) 1) (by rw [HP.out];decide) (by rw [HP.out];exact yl0) yl0;rw [HP.out,show AJ yP (.node 1 [] [])=true from ysp] at h;rw [HP.out];exact h)
 have G:=zh (show ∀W (ok:Nat->Prop) v,za w9 W->zL W ok v (exM 4 8)->Calls Tryz.prog 12 #[v,.agg #[.int .i64 p.task,.slice As p.side.length cs,.slice Ak p.kids.length ck]] W fun e w'=>e=.returned (.bool true)/\za W w' from fun W ok v hW hM=>by
  have h:=BI W hM (Ct 4 8) (a5.out.ext hW) (by rw [HP.out];exact yl0) (by rw [HP.out];decide);rw [show Bf (exM 4 8) p=true by rw [HP.out];exact yk1] at h;exact h)
 have I:=zh (show ∀W (ok:Nat->Prop) v,za w9 W->zL W ok v (exM 6 8)->Calls Tryz.prog 12 #[v,.agg #[.int .i64 p.task,.slice As p.side.length cs,.slice Ak p.kids.length ck]] W fun e w'=>e=.returned (.bool false)/\za W w' from fun W ok v hW hM=>by
  have h:=BI W hM (Ct 6 8) (a5.out.ext hW) (by rw [HP.out];exact yl0) (by rw [HP.out];decide);rw [show Bf (exM 6 8) p=false by rw [HP.out];exact yk2] at h;exact h)
 have b4:za w9 w9:=za.refl w9;refine Dp (S:=(fun W=>za w9 W)) An (b4.drew) fun zH=>?_;have a1:za w9 w9.drew:=zH;generalize w9.drew=wd at zH a1⊢;refine zj 0 zH ?_;refine zj 1 zH ?_;simp only [zc,CV];refine zj 2 zH ?_;refine zj 3 zH ?_;simp only [zc,CV];refine zj 4 zH ?_;refine zj 5 zH ?_;simp only [zc,CV];refine zj 6 zH ?_;refine zj 7 zH ?_;simp only [zc,CV];refine zj 8 zH ?_;simp only [zc,CV];refine Aa 9 fun K o=>?_;go_simp;go_at_call 17;refine (b7.out _ zH).mono ?_;rintro e wa ⟨rfl,O⟩;go_simp;refine DY o (zH.trans O) fun zH=>?_;clear o K;try simp only [zc,CV]
 refine zj 10 zH ?_;refine zj 11 zH ?_;simp only [zc,CV];refine zj 13 zH ?_;simp only [zc,CV];refine Aa 12 fun K o=>?_;go_simp;go_at_call 26;refine (zY 4 8 _).mono ?_;rintro e wb ⟨vb,rfl,Q,a7⟩;go_simp;refine DY o (zH.trans Q) fun zH=>?_;clear o K;try simp only [zc,CV]
 refine Aa 14 fun K o=>?_;go_simp;go_at_call 12;refine (G.out _ _ _ zH a7).mono ?_;rintro e wc ⟨rfl,U⟩;go_simp;refine DY o (zH.trans U) fun zH=>?_;clear o K;try simp only [zc,CV]
 refine zj 15 zH ?_;refine zj 16 zH ?_;simp only [zc,CV];refine zj 18 zH ?_;simp only [zc,CV];refine Aa 17 fun K o=>?_;go_simp;go_at_call 26;refine (zY 6 8 _).mono ?_;rintro e wd' ⟨vd,rfl,V,a8⟩;go_simp;refine DY o (zH.trans V) fun zH=>?_;clear o K;try simp only [zc,CV]
 refine Aa 19 fun K o=>?_;go_simp;go_at_call 12;refine (I.out _ _ _ zH a8).mono ?_;rintro e we ⟨rfl,a0⟩;go_simp;refine DY o (zH.trans a0) fun zH=>?_;clear o K;try simp only [zc,CV]
 refine zj 20 zH ?_;refine zj 21 zH ?_;simp only [zc,CV];refine zj 22 zH ?_;simp only [zc,CV];refine DB (by kernel_rfl) ?_ _;have d:za w9 we:=((((a1.trans O).trans Q).trans U).trans V).trans a0;have p0:=fun W h=>p0 W (d.trans h)
 have p1:=fun W h=>p1 W (d.trans h)
 have p2:=fun W h=>p2 W (d.trans h)
 have q0:=fun W h=>q0 W (d.trans h)
 have q1:=fun W h=>q1 W (d.trans h)
 have q2:=fun W h=>q2 W (d.trans h)
 have a4:Hid (za w we):=e5.out.trans d;have f3:=zh (a5.out.ext d);have c6:=zh (f5.out.ext d);clear b7 G I d a1 O Q a7 U V a8 a0 b4 a5 f5 e5;go_upto_region 7 with fail;refine fin_wp we [_,_,_,_,_,_,_] fun wf z hB=>?_
 have HW:Hid (zV wf (fun b=>we.heap.size<=b) (.agg #[.int .i64 0,.slice none 0 0,.slice (some ⟨we.heap.size+5,0,none⟩) 1 1]) BG):=ywant_mem (hB 0 _ rfl) (hB 1 _ rfl) (hB 2 _ rfl) (hB 4 _ rfl) (hB 5 _ rfl);have b1:ze wf (we.heap.size+6) 27 #[.int .i64 0,.slice none 0 0,.slice (some ⟨we.heap.size+5,0,none⟩) 1 1]:=hB 6 _ rfl;obtain ⟨gw,i2⟩:∃g,g=we.heap.size+6:=⟨_,rfl⟩;have c0:we.heap.size+1+1+1+1+1+1=gw:=by omega
 rw [c0];rw [<-i2] at b1;have z0:=za.rule (b1.cell (k:=0) rfl);have z1:=za.rule (b1.cell (k:=1) rfl);have z2:=za.rule (b1.cell (k:=2) rfl);obtain ⟨gy,i3⟩:∃g,g=we.heap.size+5:=⟨_,rfl⟩;rw [<-i3] at HW z1 z2 z0;clear b1 hB i2 c0 i3;have b5:Hid (za w wf):=a4.out.trans z;have j5:za wf wf:=za.refl wf;have b9:=Cj 1000 wf (HV.out.ext b5.out) (c6.out.ext z) (by rw [L.out];decide) (by rw [L.out];exact yok) (by rw [L.out];have:=yel;omega)
 go_wp2_with fail
 refine b9.mono ?_;rintro e wg ⟨rfl,c8⟩;obtain ⟨str,b3⟩:=DX (zI q);rw [<-b3];have a6:=zh b3;have e6:Hid (za w wg):=b5.out.trans c8;have M:=dec_calls (l:=str) wg (HV.out.ext e6.out);rw [show decR str=(0,q) by rw [a6.out,L.out];exact yd1] at M;have a3:=zh M;have e7:Hid (za wf wg):=c8;clear b9 c8 b3 M j5
 go_wp2_with fail
 refine a3.out.mono ?_;rintro e wh ⟨vg,rfl,g8,hG⟩;have hG:zV wh (fun b=>wg.heap.size<=b) vg q:=hG;obtain ⟨Gs,fs,Gk,fk,rfl,-⟩:=hG.form;have e8:Hid (za wf wh):=e7.out.trans g8;have e9:=zh hG;clear g8 hG a3;go_upto_region 9 with fail;obtain ⟨D,g0,g1,g2⟩:=box3 wh (.int .i64 q.task) (.slice Gs q.side.length fs) (.slice Gk q.kids.length fk);generalize wh.alloc _=wi at D g0 g1 g2⊢;obtain ⟨gg,h9⟩:∃g,g=wh.heap.size:=⟨_,rfl⟩;rw [<-h9] at g0 g1 g2⊢;have r:za wf wi:=e8.out.trans D;have p0:=fun W h=>p0 W ((z.trans r).trans h)
 have p1:=fun W h=>p1 W ((z.trans r).trans h)
 have p2:=fun W h=>p2 W ((z.trans r).trans h)
 have q0:=fun W h=>q0 W ((z.trans r).trans h)
 have q1:=fun W h=>q1 W ((z.trans r).trans h)
 have q2:=fun W h=>q2 W ((z.trans r).trans h)
 have z0:=fun W h=>z0 W (r.trans h)
 have z1:=fun W h=>z1 W (r.trans h)
 have z2:=fun W h=>z2 W (r.trans h)
 have i5:Hid (za w wi):=b5.out.trans r;have j0:=zh (f3.out.ext (z.trans r));have b6:=zh (c6.out.ext (z.trans r));have j3:=zh (HW.out.ext r);have i8:=zh (e9.out.ext D);clear r D z e8 e7 b5 a4 e6 f3 c6 HW e9 h9
 have f7:=zh (show ∀W,za wi W->Calls Tryz.prog 17 #[.agg #[.int .i64 q.task,.slice Bs q.side.length ds,.slice Bk q.kids.length dk],.agg #[.int .i64 0,.slice none 0 0,.slice (some ⟨gy,0,none⟩) 1 1]] W fun e w'=>e=.returned (.bool true)/\za W w' from fun W hW=>by
  have h:=AI 1000 W (b6.out.ext hW) (j3.out.ext hW) (by rw [L.out];decide) (by rw [L.out];exact yl1) yl1;rw [show AJ q BG=true by rw [L.out];exact AZ _] at h;exact h)
 have f6:=zh (show ∀W,za wi W->Calls Tryz.prog 17 #[.agg #[.int .i64 q.task,.slice Gs q.side.length fs,.slice Gk q.kids.length fk],.agg #[.int .i64 q.task,.slice Bs q.side.length ds,.slice Bk q.kids.length dk]] W fun e w'=>e=.returned (.bool true)/\za W w' from fun W hW=>by
  have h:=AI 1000 W (i8.out.ext hW) (b6.out.ext hW) (by rw [L.out];decide) (by rw [L.out];exact yl1) (by rw [L.out];exact yl1);rw [AZ] at h;exact h)
 have G:=zh (show ∀W (ok:Nat->Prop) v,za wi W->zL W ok v (exM 1 7)->Calls Tryz.prog 12 #[v,.agg #[.int .i64 q.task,.slice Bs q.side.length ds,.slice Bk q.kids.length dk]] W fun e w'=>e=.returned (.bool true)/\za W w' from fun W ok v hW hM=>by
  have h:=BI W hM (Ct 1 7) (b6.out.ext hW) (by rw [L.out];exact yl1) (by rw [L.out];decide);rw [show Bf (exM 1 7) q=true by rw [L.out];exact yk3] at h;exact h)
 have I:=zh (show ∀W (ok:Nat->Prop) v,za wi W->zL W ok v (exM 1 7)->Calls Tryz.prog 12 #[v,.agg #[.int .i64 p.task,.slice As p.side.length cs,.slice Ak p.kids.length ck]] W fun e w'=>e=.returned (.bool false)/\za W w' from fun W ok v hW hM=>by
  have h:=BI W hM (Ct 1 7) (j0.out.ext hW) (by rw [HP.out];exact yl0) (by rw [HP.out];decide);rw [show Bf (exM 1 7) p=false by rw [HP.out];exact yk4] at h;exact h)
 have f8:=zh (show ∀W,za wi W->Calls Tryz.prog 27 #[.agg #[.int .i64 q.task,.slice Bs q.side.length ds,.slice Bk q.kids.length dk]] W fun e w'=>e=.returned (.int .i64 6)/\za W w' from fun W hW=>by
  have h:=psize_calls W (b6.out.ext hW) (by rw [L.out];decide);rw [show q.size=6 by rw [L.out];exact yz] at h;exact h)
 have b4:za wi wi:=za.refl wi;refine Dp (S:=(fun W=>za wi W)) An (b4.drew) fun zH=>?_;have a1:za wi wi.drew:=zH;generalize wi.drew=wd at zH a1⊢;refine zj 0 zH ?_;refine zj 1 zH ?_;simp only [zc,CV];refine zj 2 zH ?_;refine zj 3 zH ?_;simp only [zc,CV];refine zj 4 zH ?_;simp only [zc,CV];refine Aa 5 fun K o=>?_;go_simp;go_at_call 17;refine (f7.out _ zH).mono ?_;rintro e wa ⟨rfl,O⟩;go_simp;refine DY o (zH.trans O) fun zH=>?_;clear o K;try simp only [zc,CV]
 refine zj 6 zH ?_;refine zj 7 zH ?_;simp only [zc,CV];refine zj 9 zH ?_;simp only [zc,CV];refine Aa 8 fun K o=>?_;go_simp;go_at_call 26;refine (zY 1 7 _).mono ?_;rintro e wb ⟨vb,rfl,Q,a7⟩;go_simp;refine DY o (zH.trans Q) fun zH=>?_;clear o K;try simp only [zc,CV]
 refine Aa 10 fun K o=>?_;go_simp;go_at_call 12;refine (G.out _ _ _ zH a7).mono ?_;rintro e wc ⟨rfl,U⟩;go_simp;refine DY o (zH.trans U) fun zH=>?_;clear o K;try simp only [zc,CV]
 refine zj 11 zH ?_;refine zj 12 zH ?_;simp only [zc,CV];refine zj 14 zH ?_;simp only [zc,CV];refine Aa 13 fun K o=>?_;go_simp;go_at_call 26;refine (zY 1 7 _).mono ?_;rintro e wd' ⟨vd,rfl,V,a8⟩;go_simp;refine DY o (zH.trans V) fun zH=>?_;clear o K;try simp only [zc,CV]
 refine Aa 15 fun K o=>?_;go_simp;go_at_call 12;refine (I.out _ _ _ zH a8).mono ?_;rintro e we ⟨rfl,a0⟩;go_simp;refine DY o (zH.trans a0) fun zH=>?_;clear o K;try simp only [zc,CV]
 refine zj 16 zH ?_;refine zj 17 zH ?_;simp only [zc,CV];refine zj 18 zH ?_;refine zj 19 zH ?_;simp only [zc,CV];refine Aa 20 fun K o=>?_;go_simp;go_at_call 27;refine (f8.out _ zH).mono ?_;rintro e wo ⟨rfl,c9⟩;go_simp;refine DY o (zH.trans c9) fun zH=>?_;clear o K;try simp only [zc,CV]
 refine zj 21 zH ?_;refine zj 22 zH ?_;simp only [zc,CV];refine zj 23 zH ?_;simp only [zc,CV];refine DB (by kernel_rfl) ?_ _;have d:za wi wo:=(((((a1.trans O).trans Q).trans U).trans V).trans a0).trans c9;have g0:=fun W h=>g0 W (d.trans h)
 have g1:=fun W h=>g1 W (d.trans h)
 have g2:=fun W h=>g2 W (d.trans h)
 have q0:=fun W h=>q0 W (d.trans h)
 have q1:=fun W h=>q1 W (d.trans h)
 have q2:=fun W h=>q2 W (d.trans h)
 have a4:Hid (za w wo):=i5.out.trans d;have i9:=zh d;clear f7 G I f8 a1 O Q a7 U V a8 a0 c9 b4 p0 p1 p2 z0 z1 z2;obtain ⟨st2,b2⟩:=DX (str++[120])
 have ha:∀w,(Op.stringOp .add ⟨str.toArray⟩ ⟨#[120]⟩).run Tryz.prog w=.ok (.string ⟨st2.toArray⟩) w:=fun w=>by
  rw [b2];exact Ab (y:=[120]) (by have h1:=yel;rw [<-L.out,<-a6.out] at h1;simp;omega)
 have M:=dec_calls (l:=st2) wo (HV.out.ext a4.out);rw [show (decR st2).1=4 by rw [b2,a6.out,L.out];exact yd2] at M;generalize (decR st2).2=pd at M;have a3:=zh M;have j6:za wo wo:=za.refl wo;clear M b2
 go_wp2_with fail
 refine a3.out.mono ?_;rintro e wp ⟨vp,rfl,g9,hp⟩;obtain ⟨Ds,es,Dk,ek,rfl,-⟩:=hp.form;have f0:=zh g9;clear g9 hp a3 ha j6;go_upto_region 11 with fail;obtain ⟨D,-,-,-⟩:=box3 wp (.int .i64 pd.task) (.slice Ds pd.side.length es) (.slice Dk pd.kids.length ek);generalize wp.alloc _=wq at D⊢;have d6:za wo wq:=f0.out.trans D;have i6:Hid (za w wq):=a4.out.trans d6;have i4:=f6.out wq (i9.out.trans d6);have b8:=zh i4;clear i4 f6 D f0
 go_wp2_with fail
 refine b8.out.mono ?_;rintro e wr ⟨rfl,h3⟩;have i7:Hid (za w wr):=i6.out.trans h3;clear h3 d6 b8
 go_wp2_with fail
 go_ret;exact ⟨rfl,i7.out⟩
end
end Go.Proofs.YtcnaogdgjkpkmaaGreatDoor
