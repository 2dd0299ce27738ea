import Derived.Test.YtfjjdmpndmbfoaaGreatDoorWTr
import Derived.Laws.EntriesVeiled
set_option linter.unusedVariables false
set_option linter.unusedSimpArgs false
set_option maxRecDepth 100000
set_option maxHeartbeats 16000000
namespace Go.Proofs.YtfjjdmpndmbfoaaGreatDoor
variable {mc:Array Value} {st:Int} {ch:List Int} {id s sg:List UInt8} {m:MZ} {g gi gm gs l r:Nat} {R X Z:Nat->Prop} {vc:Value} {W w:World}
section
open Go.RowKit Go.Shelf
attribute [local go_sem ↓] Go.wp_at_zero Go.wp_at_succ
attribute [local go_sem] Oper.semAt_some
theorem chain_l (a b:List UInt8) (w:World) (d:a.length<=1000000000) (o:b.length<=1000000000):Calls Tryz.prog 63 #[.string ⟨a.toArray⟩,.string ⟨b.toArray⟩] w fun e w'=>e=.returned (.string ⟨(BO a b).toArray⟩)/\zc w w':=
 Chain_calls ⟨a.toArray⟩ ⟨b.toArray⟩ w (by simpa [ByteArray.size] using d) (by simpa [ByteArray.size] using o)
theorem of_l (a:List UInt8) (w:World) (d:a.length<=1000000000):Calls Tryz.prog 52 #[.string ⟨a.toArray⟩] w fun e w'=>e=.returned (.string ⟨(Dl a).toArray⟩)/\zc w w':=
 Of_calls ⟨a.toArray⟩ w (by simpa [ByteArray.size] using d)
theorem body_len (h:∀x∈ch,Cp x) (d:Cp st):(Bb ch st).length<=22*ch.length+24/\(wL ch).length<=22*ch.length+2/\(wI st).length<=22:=by
 have h1:=wIs_len h;have o:=wI_len d;unfold Bb wL;simp only [DM,EF,EG];omega
abbrev CK (w:World) (g:Nat) (sg:List UInt8):Prop:=zg w g 9 #[.string ⟨sg.toArray⟩]
theorem blk_ne_var {t:TypeId} {cs:Array Value} (h:zq w) (B:zg w r t cs) (h1:cs.size<=8) (o:∀t p,cs≠#[.iface t p]):∀g,g=r->¬ isVar g:=by
 rintro g rfl ⟨n,E,D⟩
 have f:∀ds,w.var? Tryz.prog n=some ds->ds=cs:=fun ds h=>by
  unfold World.var? at h;rw [D] at h;have d:w.heap[g]?=some (.cells cs t (0,0)):=B;simp only [Option.bind_some,d] at h;injection h with h;exact h.symm
 rcases E with rfl | rfl | rfl
 ·have:=congrArg Array.size (f _ h.tab);simp [Lib.pow10Tab] at this;omega
 ·obtain ⟨tp,p,h⟩:=h.syn;exact o _ _ (f _ h).symm
 ·obtain ⟨tp,p,h⟩:=h.rng;exact o _ _ (f _ h).symm
theorem seal_ne (h:zq w) (d:CK w r sg):∀g,g=r->¬ isVar g:=
 blk_ne_var h d (by simp) (fun t p e=>by have:=congrArg (fun a:Array Value=>a[0]?) e;simp at this)
theorem jSealer_calls (sg:List UInt8) (w:World):Calls Tryz.prog 33 #[.string ⟨sg.toArray⟩] w fun e w'=>e=.returned (.func (.func 62) #[] #[.pointer (some ⟨w.heap.size,0,none⟩)])/\zc w w'/\CK w' w.heap.size sg:=by
 go_enter Tryz.func33,Tryz.ntmps33
 go_wp2_with fail
 go_ret;exact ⟨rfl,(zc.refl w).alloc _,zg.new _ _ _ rfl⟩
theorem jSeal_calls {ok:Nat->Prop} (w:World) (hv:zq w) (hg:CK w g sg) (c9:sg.length<=1000) (hc:zl w ok vc ch) (hi:∀x∈ch,Cp x) (c7:ch.length<=40000000) (a5:Cp st):
  Calls Tryz.prog 62 #[vc,.int .i64 st,.pointer (some ⟨g,0,none⟩)] w fun e w'=>e=.returned (.string ⟨(zU sg ch st).toArray⟩)/\zk (·=g) w w'/\CK w' g (zT sg ch st)/\zq w':=by
 obtain ⟨c6,b2,b3⟩:=body_len hi a5;obtain ⟨x1,D⟩:∃x,x=wL ch:=⟨_,rfl⟩;obtain ⟨x2,E⟩:∃x,x=wI st:=⟨_,rfl⟩;obtain ⟨bd,d⟩:∃x,x=Bb ch st:=⟨_,rfl⟩;have a4:bd=x1++x2:=by rw [d,D,E];rfl
 obtain ⟨s2,o⟩:∃x,x=zT sg ch st:=⟨_,rfl⟩;have J:s2=BO sg bd:=by rw [o,d];rfl
 have b4:s2.length=8:=by rw [o];exact AT _ _ _
 have V:=Cb (s:=bd) (by rw [d];omega);have a8:=Cb (s:=s2) (by omega);obtain ⟨y1,G⟩:∃x,x=wT bd:=⟨_,rfl⟩;obtain ⟨y2,I⟩:∃x,x=wT s2:=⟨_,rfl⟩;have HR:Hid (zU sg ch st=y1++y2):=by (show _=_);rw [G,I,d,o];rfl
 have H1:Hid (∀W,zc w W->Calls Tryz.prog 50 #[vc] W fun e w'=>e=.returned (.string ⟨x1.toArray⟩)/\zc W w'):=fun W hW=>by rw [D];exact CC W (hv.ext hW) (hc.below hW) hi (by omega)
 have H2:Hid (∀W,zc w W->Calls Tryz.prog 49 #[.int .i64 st] W fun e w'=>e=.returned (.string ⟨x2.toArray⟩)/\zc W w'):=fun W hW=>by rw [E];exact Di W (hv.ext hW) a5
 have HC:Hid (∀W,Calls Tryz.prog 63 #[.string ⟨sg.toArray⟩,.string ⟨(x1++x2).toArray⟩] W fun e w'=>e=.returned (.string ⟨s2.toArray⟩)/\zc W w'):=fun W=>by rw [J,<-a4];exact chain_l sg bd W (by omega) (by rw [d];omega)
 have H3:Hid (∀W,zq W->Calls Tryz.prog 48 #[.string ⟨(x1++x2).toArray⟩] W fun e w'=>e=.returned (.string ⟨y1.toArray⟩)/\zc W w'):=fun W hW=>by rw [G,<-a4];exact BB W hW (by rw [d];omega)
 have H4:Hid (∀W,zq W->Calls Tryz.prog 48 #[.string ⟨s2.toArray⟩] W fun e w'=>e=.returned (.string ⟨y2.toArray⟩)/\zc W w'):=fun W hW=>by rw [I];exact BB W hW (by omega)
 rw [<-D] at b2;rw [<-E] at b3;rw [<-G] at V;rw [<-I] at a8;rw [d] at V;have a1:∀w,(Op.stringOp .add ⟨x1.toArray⟩ ⟨x2.toArray⟩).run Tryz.prog w=.ok (.string ⟨(x1++x2).toArray⟩) w:=fun w=>Bi (by omega)
 have a2:∀w,(Op.stringOp .add ⟨y1.toArray⟩ ⟨y2.toArray⟩).run Tryz.prog w=.ok (.string ⟨(y1++y2).toArray⟩) w:=fun w=>Bi (by omega)
 have HG:=zh hg;have HV:=zh hv;have b7:=zh o;obtain ⟨A,c,rfl,-,-⟩:=hc;clear D E a4 d o J b4 V a8 G I c6 b2 b3 hi c7 a5 hv hg c9
 go_enter Tryz.func62,Tryz.ntmps62
 go_wp2_with fail
 refine (H1.out _ (zc.refl w)).mono ?_;rintro e w1 ⟨rfl,a0⟩
 go_wp2_with fail
 refine (H2.out _ a0).mono ?_;rintro e w2 ⟨rfl,a9⟩;have a6:Hid (zc w w2):=a0.trans a9;have a7:=zh (HG.out.ext a6.out);have c0:=a7.out.cell (k:=0) rfl;clear a0 a9
 go_wp2_with fail
 refine (HC.out _).mono ?_;rintro e w3 ⟨rfl,a3⟩;have b6:Hid (zc w w3):=a6.out.trans a3;have Q:=zh (a7.out.ext a3);have f0:=Q.out.frozen 0;have c3:=Q.out.cell (k:=0) rfl;clear a3 c0;go_upto_region 3 with fail;have M:Hid (zk (·=g) w (w3.setCell ⟨g,0,none⟩ (.string ⟨s2.toArray⟩))):=Ch (X:=(·=g)) (chg_ext b6.out) g 0 _ rfl;have U:Hid (CK (w3.setCell ⟨g,0,none⟩ (.string ⟨s2.toArray⟩)) g s2):=Q.out.set (k:=0) _;have B:Hid (zq (w3.setCell ⟨g,0,none⟩ (.string ⟨s2.toArray⟩))):=Dg HV.out M.out (seal_ne HV.out HG.out);generalize w3.setCell ⟨g,0,none⟩ (.string ⟨s2.toArray⟩)=w4 at M U B⊢;have q0:=zc.rule (U.out.cell (k:=0) rfl);have hx:zc w4 w4:=zc.refl w4;clear f0 c3;refine DU (S:=(fun W=>zc w4 W)) AC (hx.drew) fun zH=>?_;have b0:zc w4 w4.drew:=zH;generalize w4.drew=wd at zH b0⊢;refine zA 0 zH ?_;refine zA 2 zH ?_;simp only [zd,DB];refine Ae 1 fun K hK=>?_;go_simp;go_at_call 48;refine (H3.out _ (B.out.ext zH)).mono ?_;rintro e w5 ⟨rfl,b8⟩;go_simp;refine EI hK (zH.trans b8) fun zH=>?_;clear hK K;try simp only [zd,DB]
 refine Ae 3 fun K hK=>?_;go_simp;go_at_call 48;refine (H4.out _ (B.out.ext zH)).mono ?_;rintro e w6 ⟨rfl,b9⟩;go_simp;refine EI hK (zH.trans b9) fun zH=>?_;clear hK K;try simp only [zd,DB]
 refine zA 4 zH ?_;refine zA 5 zH ?_;simp only [zd,DB];refine Eh (by kernel_rfl) ?_ _;have O:=zh zH;clear zH b0 hx
 go_wp2_with fail
 go_ret;refine ⟨ret_str HR.out.symm,M.out.tr (chg_ext O.out),?_,B.out.ext O.out⟩;rw [<-b7.out];exact U.out.ext O.out
end
section
open Go.RowKit
def GivesJ {α:Type} (n:Nat) (P:Program) (g:Nat) (lb:Array Value) (encs:α->Array Value) (G:Nat->Nat->Nat->α->World->Prop) (N:Nat) (Z:Nat->Prop) (w:World):Prop:=
 ∀(l:Nat) (J:Nat->Nat->World->Prop) (W:World),zc w W->w.heap.size<=l->l<W.heap.size->(∀gx k A B,W.heap.size<=gx->J gx k A->zk (fun b=>b=gx) A B->J gx k B)->
  (∀gx k x W1,W.heap.size<=gx->k<N->J gx k W1->G W.heap.size gx k x W1->YieldAt Fence.wide (n - 1) P l (encs x) W1 fun e W'=>e=.returned (.bool true)/\J gx (k+1) W'/\zk (fun b=>b=l\/Z b) W1 W')->
  (∀gx,J gx 0 W)->
  CallsIn Fence.wide n P g (#[.func (.yield l) #[] #[]]++lb) W fun e W'=>(∃v,e=.returned v)/\∃gx,W.heap.size<=gx/\J gx N W'
def postJ (k:Nat) (I:Nat->World->Prop) (Z:Nat->Prop) (W:World):Exit->Act->World->Prop
 | .normal,_,W'=>zk Z W W'/\I (k+1) W'
 | _,_,_=>False
theorem chg_putObj (w:World) (o:Obj) (d:X l):zk X w (w.putObj l o):=
 (zk.refl X w).grown (grownBy_putObj' w l o) (fun k e _=>by injection e with e;exact e ▸ d)
theorem wpIn_loopJ {P:Program} {n:Nat} {α:Type} {g:Operand} {ps:Array Tmp} {assign body:Code} {Q:Exit->Act->World->Prop} {a:Act}
  {gf:Nat} {lb:Array Value} (hg:a.eval g=.func (.func gf) #[] lb) (eg:∀args w,(callFunc gf args).run P w=.ok (.enter gf args) w)
  {encs:α->Array Value} {G:Nat->Nat->Nat->α->World->Prop} {N:Nat} {w0:World} (hZ:∀b,Z b->b<w.heap.size) (b1:GivesJ (n - 1) P gf lb encs G N Z w0) (a9:zc w0 w) (c0:∀x,(encs x).size=ps.size)
  (I:Nat->Nat->World->Prop) (hI:∀gx k A B,w.heap.size+2<=gx->I gx k A->zk (fun b=>b=gx\/(w.heap.size<=b/\b<=w.heap.size+1)) A B->I gx k B)
  (Ax:Nat->Nat->α->Act->World->Prop) (hAx:∀gx k x a A l,Ax gx k x a A->w.heap.size<l->l<A.heap.size->(∃r,A.heap[l]?=some (.loop r))->∀o,Ax gx k x a (A.putObj l o)) (hI0:∀gx W,zc w W->I gx 0 W)
  (hassign:∀(l gx k:Nat) (x:α) (W:World) (K:Act->World->Prop),w.heap.size+2<=gx->k<N->I gx k W->G (w.heap.size+2) gx k x W->w.heap.size<W.heap.size->(∀a' W',zc W W'->Ax gx k x a' W'->K a' W')->
   assign.wpIn (Fence.wide.inRound l) (n - 1 - 1) P (Exit.then K (fun _ _ _=>False)) { tmps:=(ps.zip (encs x)).foldl (fun t (p,v)=>t.setIfInBounds p v) a.tmps,defers:=[] } W)
  (hbody:∀(l gx k:Nat) (x:α) (a':Act) (W:World),w.heap.size+2<=gx->k<N->I gx k W->Ax gx k x a' W->w.heap.size<W.heap.size->(∃r,W.heap[w.heap.size+1]?=some (.loop r))->body.wpIn (Fence.wide.inRound l) (n - 1 - 1) P (postJ k (I gx) Z W) a' W)
  (hdone:∀(D gx:Nat) (W:World),w.heap.size<=D->D<=w.heap.size->w.heap.size+2<=gx->I gx N W->W.heap[D]?=some (.deferred (some []))->Q .normal { a with defers:={ target:=.collected D,args:=#[] } :: a.defers } W):
  (Code.rangeFunc g ps assign body).wpIn Fence.wide n P Q a w:=by
 refine wpIn_rangeFunc ?_;intro fn hfn;obtain ⟨rec,E⟩:∃rec:LoopState->Option Code->Loop,rec=fun st pe=>{ state:=st,pending:=pe,fn,tmps:=a.tmps,params:=ps,assign,body,defers:=w.heap.size }:=⟨_,rfl⟩
 obtain ⟨W1,O⟩:∃W1,(w.alloc (.deferred (some []))).alloc (.loop (rec .ready none))=W1:=⟨_,rfl⟩;have b2:W1.heap.size=w.heap.size+2:=by rw [<-O];simp
 have b6:W1.heap[w.heap.size+1]?=some (.loop (rec .ready none)):=by
  rw [<-O];have:=World.alloc_heap_new (w.alloc (.deferred (some []))) (.loop (rec .ready none))
  rwa [World.size_alloc] at this
 have b3:W1.heap[w.heap.size]?=some (.deferred (some [])):=by
  rw [<-O];exact (DW _ _ _ (by simp)).trans (World.alloc_heap_new w _)
 have a8:zc w W1:=by rw [<-O];exact ((zc.refl w).alloc _).alloc _
 refine ⟨w.heap.size+1,[{ target:=.collected w.heap.size,args:=#[] }],W1,{ target:=.fn (.func gf) lb,args:=#[.func (.yield (w.heap.size+1)) #[] #[]] },W1,gf,
  #[.func (.yield (w.heap.size+1)) #[] #[]]++lb,W1,?_,?_,fun _ _=>trivial,?_,fun h=>absurd h (by simp [Fence.wide]),?_⟩
 ·rw [<-O,E];exact run_enterLoop_outer _ _ _ _ _
 ·simp only [resolve,hg];simp [go_sem]
 ·simp [invoke,go_sem,eg]
 ·refine (b1 (w.heap.size+1)
   (fun gx k W=>I gx k W/\W.heap[w.heap.size+1]?=some (.loop (rec .ready none))/\W.heap[w.heap.size]?=some (.deferred (some []))/\w.heap.size+1<W.heap.size)
   W1 (a9.trans a8) (by have:=a9.size;omega) (by omega) ?_ ?_ (fun gx=>⟨hI0 gx _ a8,b6,b3,by omega⟩)).mono ?_
  ·rintro gx k A B d ⟨h1,h2,h3,h4⟩ U;exact ⟨hI _ _ _ _ (by omega) h1 (U.wide fun b hb=>.inl hb),(U.block _ h4 (by omega)).trans h2,(U.block _ (by omega) (by omega)).trans h3,Ef h4 U.size⟩
  ·-- one round
   rintro gx k x W d b0 ⟨hi,hl,hD,J⟩ hG;rw [b2] at hG d;have hy:=run_yield (P:=P) (args:=encs x) hl (by rw [E];exact c0 x);rw [E] at hy;refine ⟨fn,_,assign,body,hy,roundIn_of_wpIn hfn (hassign _ gx k x W _ d b0 hi hG (Nat.lt_trans (Nat.lt_succ_self _) J) (fun a' Wa M b7=>?_))⟩;have hl:=(M.block _ J).trans hl;have hD:=(M.block _ (by omega)).trans hD;have hi:=hI _ _ _ _ d hi (zk.of_ext M);have J:w.heap.size+1<Wa.heap.size:=Ef J M.size;refine ⟨_,run_beginRound hl (by rw [E]),?_⟩;have a5:(Wa.putObj (w.heap.size+1) (.loop { rec .ready none with state:=.busy })).heap[w.heap.size+1]?=some (.loop { rec .ready none with state:=.busy }):=World.putObj_heap_same J;have b4:(Wa.putObj (w.heap.size+1) (.loop { rec .ready none with state:=.busy })).heap[w.heap.size]?=some (.deferred (some [])):=(World.putObj_heap_other (by omega)).trans hD;have a0:w.heap.size+1<(Wa.putObj (w.heap.size+1) (.loop { rec .ready none with state:=.busy })).heap.size:=(Ex.1 a5).1;have b8:Wa.grownBy (Wa.putObj (w.heap.size+1) (.loop { rec .ready none with state:=.busy })) (some (w.heap.size+1)):=grownBy_putObj' _ _ _;refine wpIn_mono (hbody _ gx k x a' _ d b0 (hI _ _ _ _ d hi (chg_putObj _ _ (by omega))) (hAx _ _ _ _ _ _ b7 (by omega) J ⟨_,hl⟩ _) (Nat.lt_trans (Nat.lt_succ_self _) a0) ⟨_,a5⟩) ?_;generalize Wa.putObj (w.heap.size+1) (.loop { rec .ready none with state:=.busy })=W2 at*
   have fin:∀(jump:Option Code) (W3:World),W3.heap[w.heap.size+1]?=some (.loop { rec .ready none with state:=.busy })->
     (Instr.endRound (w.heap.size+1) jump).run P W3=.ok (.bool jump.isNone) (W3.putObj (w.heap.size+1) (.loop (rec (if jump.isNone then .ready else .done) jump))):=fun jump W3 V=>by
    have:=run_endRound (P:=P) jump V;rw [E] at this⊢;exact this
   rintro e a3 W3 hp
   cases e with
   | normal=>
    obtain ⟨a2,b9⟩:=hp;have V:=(a2.block _ a0 (fun h=>by have:=hZ _ h;omega)).trans a5;have a1:=(Ex.1 V).1;have b5:=(a2.block _ (by omega) (fun h=>by have:=hZ _ h;omega)).trans b4;refine ⟨_,_,fin none W3 V,rfl,⟨hI _ _ _ _ d b9 (chg_putObj _ _ (by omega)),World.putObj_heap_same a1,(World.putObj_heap_other (by omega)).trans b5,?_⟩,?_⟩
    ·exact (Ex.1 (World.putObj_heap_same a1)).1
    ·exact (((zk.of_ext (X:=fun b=>b=w.heap.size+1\/Z b) M).grown b8 (fun k e _=>by injection e with e;exact .inl e.symm)).trans a2 (fun k _ h=>.inr h)).grown (grownBy_putObj' _ _ _) (fun k e _=>by injection e with e;exact .inl e.symm)
   | ret=>exact hp.elim
   | exit id=>exact hp.elim
   | goto t=>exact hp.elim
   | panic ch=>exact hp.elim
   | outgrown=>exact hp.elim
  ·-- behind the iterator
   rintro e W2 ⟨⟨v,rfl⟩,gx,d,hi,hl,hD,J⟩;rw [b2] at d;exact ⟨none,_,by have:=run_endLoop (P:=P) hl (by rw [E];simp);rw [E] at this;exact this,hdone _ gx _ (DE _) (DE _) d (hI _ _ _ _ d hi (chg_putObj _ _ (by omega))) ((World.putObj_heap_other (by omega)).trans hD)⟩
end
section
open Go.RowKit Go.Shelf
attribute [local go_sem ↓] Go.wp_at_zero Go.wp_at_succ
attribute [local go_sem] Oper.semAt_some
def jsc (vc:Value) (x:JS):Array Value:=#[vc,.int .i64 x.steps,.int .i64 x.fin,.string ⟨x.sg.toArray⟩]
def j0 (id:List UInt8):JS:=⟨[],0,(zv id).length,id⟩
def mzc (m:MZ) (Af:Option Addr) (cf:Nat) (Au:Option Addr) (cu:Nat) (At:Option Addr) (ct:Nat):Array Value:=#[.int .i64 m.w,.int .i64 m.h,.int .i64 m.l,.slice Af m.free.length cf,.slice Au m.up.length cu,.slice At m.tasks.length ct]
structure JCtx (W:World) (gi gs gm:Nat) (id s:List UInt8) (mc:Array Value) (m:MZ) (R:Nat->Prop):Prop where
 bi:zg W gi 9 #[.string ⟨id.toArray⟩]
 bs:zg W gs 9 #[.string ⟨s.toArray⟩]
 bm:zg W gm 29 mc
 mz:Ad W R (.agg mc) m
 v:zq W
theorem JCtx.ext {W W':World} {gi gs gm:Nat} {id s:List UInt8} {mc:Array Value} {m:MZ} {R:Nat->Prop} (h:JCtx W gi gs gm id s mc m R) (d:zc W W'):JCtx W' gi gs gm id s mc m R:=
 ⟨h.bi.ext d,h.bs.ext d,h.bm.ext d,h.mz.below d,h.v.ext d⟩
theorem JCtx.chg {W':World} (h:JCtx W gi gs gm id s mc m R) (d:zk X W W') (h1:¬ X gi) (o:¬ X gs) (B:¬ X gm) (D:∀b,R b->¬ X b) (E:∀g,X g->¬ isVar g):JCtx W' gi gs gm id s mc m R:=
 ⟨d.blk h.bi h1,d.blk h.bs o,d.blk h.bm B,h.mz.keep (d.same D),Dg h.v d E⟩
structure JOut (w W:World) (l gi gs gm:Nat) (R Z:Nat->Prop):Prop where
 l1:w.heap.size<=l
 l2:l<W.heap.size
 wW:w.heap.size<=W.heap.size
 b:gi<w.heap.size/\gs<w.heap.size/\gm<w.heap.size
 z:¬ Z gi/\¬ Z gs/\¬ Z gm
 rb:∀b,R b->b<w.heap.size/\¬ Z b
 zb:∀b,Z b->b<w.heap.size/\¬ isVar b
 nv:∀b,w.heap.size<=b->¬ isVar b
structure JIt (W wr:World) (gi gs gm gx:Nat) (id s:List UInt8) (mc:Array Value) (m:MZ) (R:Nat->Prop) (y:JS) (vc:Value):Prop where
 ctx:JCtx wr gi gs gm id s mc m R
 x:zg wr gx 77 (jsc vc y)
 ch:zl wr (fun b=>W.heap.size<=b/\b≠gx) vc y.ch
 sz:W.heap.size<=wr.heap.size
theorem JIt.yield {wr w':World} {gx:Nat} {y:JS} (h:JIt W wr gi gs gm gx id s mc m R y vc) (d:JOut w W l gi gs gm R Z) (J:W.heap.size<=gx) (o:zk (fun b=>b=l\/Z b) wr w'):JIt W w' gi gs gm gx id s mc m R y vc:=by
 have h1:=d.l1;have E:=d.l2;have G:=d.wW;have I:=d.b;have B:=d.z;refine ⟨h.ctx.chg o ?_ ?_ ?_ ?_ ?_,o.blk h.x ?_,h.ch.keep (o.same ?_),DG h.sz o.size⟩
 ·rintro (e | e);omega;exact B.1 e
 ·rintro (e | e);omega;exact B.2.1 e
 ·rintro (e | e);omega;exact B.2.2 e
 ·rintro b D (e | e)
  ·have:=(d.rb b D).1;omega
  ·exact (d.rb b D).2 e
 ·rintro g (e | e)
  ·exact d.nv g (by omega)
  ·exact (d.zb g e).2
 ·rintro (e | e)
  ·omega
  ·have:=(d.zb _ e).1;omega
 ·rintro b ⟨D,-⟩ (e | e)
  ·omega
  ·have:=(d.zb _ e).1;omega
theorem rec_seal {T:List UInt8} (h:RecOk ch st) (hp:zU sg ch st <+: T):(Ca (Ca (T,false)).2).1=zT sg ch st:=by
 obtain ⟨rest,rfl⟩:=hp;obtain ⟨h1,d,-,-⟩:=rec_read (sg:=sg) (rest:=rest) h;rw [h1,d]
theorem elsF_cl:∀(f:Nat) (s:Rd) (l:List Int),(AY f s l).1.length<=l.length+f
 | 0,s,l=>by simp [AY]
 | f+1,s,l=>by
  unfold AY
  split
  ·simp only;omega
  ·have:=elsF_cl f (AZ s).2 (l++[(AZ s).1]);simp only [DM,Ed] at this;omega
theorem intsF_cl (s:Rd):(AN s).1.length<=s.1.length:=by
 unfold AN
 split
 ·simp
 ·have h:=elsF_cl s.1.tail.length (s.1.tail,false) [];simp only [EG,List.length_tail] at h;unfold intsE
  split
  ·simp
  ·simp only [List.length_tail];omega
theorem zJ {a b c d:Value} (h:zg W g 77 #[a,b,c,d]):W.cell? ⟨g,0,none⟩=some a/\W.cell? ⟨g,1,none⟩=some b/\W.cell? ⟨g,2,none⟩=some c/\W.cell? ⟨g,3,none⟩=some d:=
 ⟨h.cell (k:=0) rfl,h.cell (k:=1) rfl,h.cell (k:=2) rfl,h.cell (k:=3) rfl⟩
theorem jStates_gives {cf cu ct:Nat} {Af Au At:Option Addr} (w:World) (hC:JCtx w gi gs gm id s (mzc m Af cf Au cu At ct) m R) (hl:Lens m) (hc:BS m=0) (hid:id.length=8) (hs:s.length<=40000000) (hh:(zv id).length<=s.length)
  (p8:∀b,R b->b<w.heap.size/\¬ Z b) (hZ:¬ Z gi/\¬ Z gs/\¬ Z gm) (q2:∀b,Z b->b<w.heap.size/\¬ isVar b) (n:Nat):
  GivesJ n Tryz.prog 85 #[.pointer (some ⟨gi,0,none⟩),.pointer (some ⟨gs,0,none⟩),.pointer (some ⟨gm,0,none⟩)] (fun x:Value=>#[x])
   (fun B gx k x W=>∃y vc,(allJ m s s.length (j0 id))[k]?=some y/\x=.agg (jsc vc y)/\zl W (fun b=>B<=b/\b≠gx) vc y.ch) (allJ m s s.length (j0 id)).length Z w:=by
 intro l J W hW s5 q8 hJ hY h0;refine callsIn_wide.2 ?_;obtain ⟨L,hL⟩:=EH (allJ m s s.length (j0 id));have p6:JSb s (j0 id):=⟨hh,(show Cp 0 from ⟨by decide,by decide⟩),hid,(fun n hn=>by cases hn),DS _⟩
 have p7:loadE m (j0 id).ch (j0 id).steps=0:=by
  have h:=(rinv_load (m:=m)).loadE hc;exact h
 have m5:Hid (∀(k:Nat) (y:JS),L[k]?=some y->JSb s y/\(Aa m s y=none->k+1=L.length)/\∀z,Aa m s y=some z->L[k+1]?=some z):=fun k y hy=>by
  rw [hL] at hy⊢;exact ⟨(allJ_b _ _ _ _ p6 p7 hy).1,allJ_next _ _ _ _ (by omega) hy⟩
 have i0:Hid (L[0]?=some (j0 id)):=by (show _=_);rw [hL];exact allJ_zero _ _ _ _
 rw [<-hL] at hY⊢;have HO:Hid (JOut w W l gi gs gm R Z):=⟨s5,q8,hW.size,⟨za hC.bi,za hC.bs,za hC.bm⟩,hZ,p8,q2,fun b hb=>var_new hC.v hb⟩;have d8:=zh (hC.ext hW);have HJ:=zh hJ;have HY:=zh hY;have h9:=zh h0;have HL:=zh hl;have o0:=zh hs;have c0:=d8.out.bi.cell (k:=0) rfl;have q0:=zc.rule c0;have g8:Hid (∀W',zc W W'->Calls Tryz.prog 28 #[.string ⟨id.toArray⟩] W' fun e w'=>e=.returned (.string ⟨(zv id).toArray⟩)/\zc W' w'):=fun W' h=>CL W' (d8.out.v.ext h) (by omega)
 have hx:zc W W:=zc.refl W;clear hL p6 p7 hJ hY h0 hC hW s5 q8 p8 hZ q2 hl hc hid hs hh c0
 go_enter Tryz.func85,Tryz.ntmps85
 go_upto_region 0 with fail;go_cut [5] (fun v5 wc=>∃gx,v5=.pointer (some ⟨gx,0,none⟩)/\W.heap.size<=gx/\Hid (zc W wc)/\Hid (zg wc gx 77 (jsc (.slice none 0 0) (j0 id))))
 case first=>
  clear m5 i0 HJ HY h9;refine wp_dark (fun Q' hP e4=>?_) (fun c a a' w hd h=>by obtain ⟨t,d⟩:=a;obtain ⟨t',d'⟩:=a';cases hd;exact h);refine AK (S:=(fun W'=>zc W W')) AC (hx.drew) fun zH=>?_;generalize W.drew=wd at zH⊢;refine ze (i:=0) (v:=?v1) rfl (by kernel_rfl) (by kernel_rfl) (by kernel_rfl) (by kernel_rfl) (fun _ _ _ h=>hP _ _ _ _ (by rfl) h) (Or.inl ⟨?w1,?y1⟩) zH ?r1
  case w1=>rfl
  case y1=>(intro w M;go_simp;try with_reducible rfl)
  simp only [zd,DB];refine ze (i:=3) (v:=?v2) rfl (by kernel_rfl) (by kernel_rfl) (by kernel_rfl) (by kernel_rfl) (fun _ _ _ h=>hP _ _ _ _ (by rfl) h) (Or.inl ⟨?w2,?y2⟩) zH ?r2
  case w2=>rfl
  case y2=>(intro w M;go_simp;try with_reducible rfl)
  simp only [zd,DB];refine zt (rs:=[1,5]) (by kernel_rfl) (by simp) ?_;refine zj.cons rfl (fun K E=>?_) ?_
  ·go_simp;go_at_call 28;refine (g8.out _ (zH)).mono ?_;rintro e w1 ⟨rfl,z6⟩;go_simp;refine EI E (zH.trans z6) fun zH=>?_;clear E K;try simp only [zd,DB]
   refine ze (i:=2) (v:=?v3) rfl (by kernel_rfl) (by kernel_rfl) (by kernel_rfl) (by kernel_rfl) (fun _ _ _ h=>hP _ _ _ _ (by rfl) h) (Or.inl ⟨?w3,?y3⟩) zH ?r3
   case w3=>rfl
   case y3=>(intro w M;go_simp;try with_reducible rfl)
   simp only [zd,DB];refine ze (i:=4) (v:=?v4) rfl (by kernel_rfl) (by kernel_rfl) (by kernel_rfl) (by kernel_rfl) (fun _ _ _ h=>hP _ _ _ _ (by rfl) h) (Or.inl ⟨?w4,?y4⟩) zH ?r4
   case w4=>rfl
   case y4=>(intro w M;go_simp;try with_reducible rfl)
   simp only [zd,DB];refine zt (rs:=[5]) (by kernel_rfl) (by simp) ?_;refine zj.cons rfl (fun K E=>?_) zj.nil;go_simp;have O:=zg.new w1 #[.slice none 0 0,.int .i64 0,.int .i64 0,.string ⟨#[]⟩] 77 (g:=w1.heap.size) rfl;have hA2:zc w1 (w1.alloc (.cells #[.slice none 0 0,.int .i64 0,.int .i64 0,.string ⟨#[]⟩] 77)):=(zc.refl w1).alloc _;have b4:Hid (W.heap.size<=w1.heap.size):=zH.size;generalize w1.alloc _=w2 at O hA2⊢;generalize w1.heap.size=gx at O b4⊢;go_simp;refine EI E (zH.trans hA2) fun zH=>?_;clear E K;try simp only [zd,DB]
   have A8:=O;refine zt (rs:=[6]) (by kernel_rfl) (by simp) ?_;refine zj.last rfl (by kernel_rfl) fun K E=>?_;go_simp;obtain ⟨k0,k1,k2,k3⟩:=zJ O;have fz:∀k,w2.frozen? ⟨gx,k,none⟩=false:=fun k=>O.frozen k
   go_simp;have o:Hid (zc W ((((w2.setCell ⟨gx,0,none⟩ (.slice none 0 0)).setCell ⟨gx,1,none⟩ (.int .i64 0)).setCell ⟨gx,2,none⟩ (.int .i64 (zv id).length)).setCell ⟨gx,3,none⟩ (.string ⟨id.toArray⟩))):=(((Below.setCell (zH) (p:=⟨gx,0,none⟩) b4.out _).setCell (p:=⟨gx,1,none⟩) b4.out _).setCell (p:=⟨gx,2,none⟩) b4.out _).setCell (p:=⟨gx,3,none⟩) b4.out _;have g6:Hid (zg ((((w2.setCell ⟨gx,0,none⟩ (.slice none 0 0)).setCell ⟨gx,1,none⟩ (.int .i64 0)).setCell ⟨gx,2,none⟩ (.int .i64 (zv id).length)).setCell ⟨gx,3,none⟩ (.string ⟨id.toArray⟩)) gx 77 (jsc (.slice none 0 0) (j0 id))):=(((O.set (k:=0) _).set (k:=1) _).set (k:=2) _).set (k:=3) _;have g7:=b4;refine E.out _ _ ?_;clear E K;refine Bh (by kernel_rfl) ?_ _;subst e4;go_wp2;go_meet;exact ⟨gx,rfl,g7.out,o,g6⟩
  refine zj.cons rfl (fun K E=>?_) ?_
  ·go_simp;have i9:=zg.new wd #[.slice none 0 0,.int .i64 0,.int .i64 0,.string ⟨#[]⟩] 77 (g:=wd.heap.size) rfl;have hA1:zc wd (wd.alloc (.cells #[.slice none 0 0,.int .i64 0,.int .i64 0,.string ⟨#[]⟩] 77)):=(zc.refl wd).alloc _;have b0:Hid (W.heap.size<=wd.heap.size):=zH.size;generalize wd.alloc _=w1 at i9 hA1⊢;generalize wd.heap.size=gx at i9 b0⊢;go_simp;refine EI E (zH.trans hA1) fun zH=>?_;clear E K;try simp only [zd,DB]
   refine zt (rs:=[1]) (by kernel_rfl) (by simp) ?_;refine zj.cons rfl (fun K E=>?_) zj.nil;go_simp;go_at_call 28;refine (g8.out _ (zH)).mono ?_;rintro e w2 ⟨rfl,p5⟩;have O:=i9.ext p5;go_simp;refine EI E (zH.trans p5) fun zH=>?_;clear E K;try simp only [zd,DB]
   refine ze (i:=2) (v:=?v5) rfl (by kernel_rfl) (by kernel_rfl) (by kernel_rfl) (by kernel_rfl) (fun _ _ _ h=>hP _ _ _ _ (by rfl) h) (Or.inl ⟨?w5,?y5⟩) zH ?r5
   case w5=>rfl
   case y5=>(intro w M;go_simp;try with_reducible rfl)
   simp only [zd,DB];refine ze (i:=4) (v:=?v6) rfl (by kernel_rfl) (by kernel_rfl) (by kernel_rfl) (by kernel_rfl) (fun _ _ _ h=>hP _ _ _ _ (by rfl) h) (Or.inl ⟨?w6,?y6⟩) zH ?r6
   case w6=>rfl
   case y6=>(intro w M;go_simp;try with_reducible rfl)
   simp only [zd,DB];refine zt (rs:=[6]) (by kernel_rfl) (by simp) ?_;refine zj.last rfl (by kernel_rfl) fun K E=>?_;go_simp;obtain ⟨k0,k1,k2,k3⟩:=zJ O;have fz:∀k,w2.frozen? ⟨gx,k,none⟩=false:=fun k=>O.frozen k
   go_simp;have o:Hid (zc W ((((w2.setCell ⟨gx,0,none⟩ (.slice none 0 0)).setCell ⟨gx,1,none⟩ (.int .i64 0)).setCell ⟨gx,2,none⟩ (.int .i64 (zv id).length)).setCell ⟨gx,3,none⟩ (.string ⟨id.toArray⟩))):=(((Below.setCell (zH) (p:=⟨gx,0,none⟩) b0.out _).setCell (p:=⟨gx,1,none⟩) b0.out _).setCell (p:=⟨gx,2,none⟩) b0.out _).setCell (p:=⟨gx,3,none⟩) b0.out _;have g6:Hid (zg ((((w2.setCell ⟨gx,0,none⟩ (.slice none 0 0)).setCell ⟨gx,1,none⟩ (.int .i64 0)).setCell ⟨gx,2,none⟩ (.int .i64 (zv id).length)).setCell ⟨gx,3,none⟩ (.string ⟨id.toArray⟩)) gx 77 (jsc (.slice none 0 0) (j0 id))):=(((O.set (k:=0) _).set (k:=1) _).set (k:=2) _).set (k:=3) _;have g7:=b0;refine E.out _ _ ?_;clear E K;refine Bh (by kernel_rfl) ?_ _;subst e4;go_wp2;go_meet;exact ⟨gx,rfl,g7.out,o,g6⟩
  exact zj.nil
 case rest=>
  obtain ⟨gx,rfl,k7,e0,c6⟩:=hcut;obtain ⟨wa,rfl⟩:∃wa:World,wa=wc:=⟨_,rfl⟩;have a3:Hid (JIt W wa gi gs gm gx id s (mzc m Af cf Au cu At ct) m R (j0 id) (.slice none 0 0)):=⟨d8.out.ext e0.out,c6.out,zl.nil _ _,e0.out.size⟩;have m2:Hid (J gx 0 wa):=HJ.out gx 0 W wa k7 (h9.out gx) (zk.of_ext e0.out);have b5:=zh k7;clear e0 c6 h9 hx q0 g8 d8 k7
  go_wp2_with fail
  go_loopg [] (L.length) (fun gk wr=>∃(k:Nat) (y:JS) (vc:Value),L[k]?=some y/\gk+k=L.length/\Hid (JIt W wr gi gs gm gx id s (mzc m Af cf Au cu At ct) m R y vc)/\Hid (J gx k wr))
  case atStart=>exact ⟨0,_,_,i0.out,rfl,a3,m2⟩
  clear a3 m2 i0
  case round=>
   obtain ⟨k,y,vc,d6,C2,a3,m3⟩:=hrel;obtain ⟨wk,rfl⟩:∃wk:World,wk=wr:=⟨_,rfl⟩;have A1:k<L.length:=(Ew.1 d6).1;obtain ⟨s7,s9,t3⟩:=m5.out k y d6;have t0:=HY.out gx k (.agg (jsc vc y)) wk b5.out A1 m3.out ⟨y,vc,d6,rfl,a3.out.ch⟩;obtain ⟨fn,tmps,assign,body,s8,hR⟩:=yield_any t0;have HR:=zh hR;obtain ⟨k0,k1,k2,k3⟩:=zJ a3.out.x;have B6:=zh d6;have i8:=zh s7;have z4:=zh s9;have z5:=zh t3;clear t0 hR d6 s7 s9 t3;go_upto_region 1 with fail;refine (Go.wpIn_wide (n:=6)).1 ?_;simp only [jsc] at s8
   gi_wp2_with fail
   refine (HR.out _).mono ?_;rintro e w2 ⟨rfl,q5,q3⟩;have m1:=zh q5;have D:=zh (a3.out.yield HO.out b5.out q3);clear HR s8 q5 q3 a3 m3 k0 k1 k2 k3;obtain ⟨k0,k1,k2,k3⟩:=zJ D.out.x;have x0:=zc.rule k0;have x1:=zc.rule k1;have x2:=zc.rule k2;have x3:=zc.rule k3;have s0:=zc.rule (D.out.ctx.bs.cell (k:=0) rfl);have l8:Hid (y.fin<=s.length/\s.length<=40000000):=⟨i8.out.fin,o0.out⟩;have f6:y.fin<=s.length:=i8.out.fin;have f7:=o0.out;have e1:ByteArray.extract ⟨s.toArray⟩ y.fin s.length=⟨(s.drop y.fin).toArray⟩:=CQ s y.fin;obtain ⟨T,hT⟩:=EH (s.drop y.fin);have o4:Hid (T.length<=40000000):=by (show _<=_);rw [hT,List.length_drop];omega
   rw [<-hT] at e1;have HT:=zh hT;have hx:zc w2 w2:=zc.refl w2;clear k0 k1 k2 k3 hT
   gi_wp2_with fail
   obtain ⟨t1,e9⟩:∃t,t=Ca (T,false):=⟨_,rfl⟩;obtain ⟨t2,f0⟩:∃t,t=Ca t1.2:=⟨_,rfl⟩;obtain ⟨c,d5⟩:=EH (AN (t1.1,false));obtain ⟨q,hq⟩:=EH (AZ c.2)
   have a0:Hid (Aa m s y=if t2.2.2=true\/q.2.2=true\/q.1<=y.steps then none else if ¬ zU y.sg c.1 q.1 <+: T then none else if loadE m c.1 q.1≠0 then none else some ⟨c.1,q.1,y.fin+(zU y.sg c.1 q.1).length,zT y.sg c.1 q.1⟩):=by
    (show _=_);unfold Aa;rw [hq,d5,f0,e9,HT.out]
   have e7:=textF_len (T,false);have k8:=textF_len t1.2;have q7:=intsF_len (t1.1,false);have e8:=(intsF_lv (t1.1,false));have l4:=intF_bound c.2;rw [<-e9] at e7;rw [<-f0] at k8;rw [<-d5] at q7 e8;rw [<-hq] at l4
   have b6:Hid (t1.1.length<=40000000/\t1.2.1.length<=40000000/\t2.1.length<=40000000/\c.2.1.length<=40000000/\c.1.length<=40000000/\Cp q.1/\∀x∈c.1,Cp x):=by
    have h0:=o4.out;have h1:=e7.1;have h2:=e7.2;have h3:=k8.1;have h4:(t1.1,false).1.length=t1.1.length:=rfl;have h5:(T,false).1.length=T.length:=rfl;have h6:=e8.1;have h7:lv (t1.1,false)=t1.1.length+1:=lv_ok rfl;refine ⟨by omega,by omega,by omega,by omega,?_,l4,e8.2⟩;have h8:c.1.length<=(t1.1,false).1.length:=by rw [d5];exact intsF_cl _
    omega
   have o2:=zh e9;have o3:=zh f0;have t7:=zh d5;have HQ:=zh hq;clear e9 f0 d5 hq e7 k8 q7 e8 l4
   go_wp2_with fail
   refine (wNew_calls T w2).mono ?_;rintro e w3 ⟨rfl,j3,j6⟩;obtain ⟨r,hr⟩:=EH w2.heap.size;rw [<-hr] at j6⊢;have m9:=zh j6;have m6:Hid (r=w2.heap.size):=hr;have o9:Hid (zc w2 w3):=j3;have o5:Hid (zq w3):=D.out.ctx.v.ext j3;clear hr j3 j6 hx e1 f6 f7
   go_wp2_with fail
   refine (rText_calls w3 o5.out m9.out (by have:=o4.out;show T.length<=_;omega)).mono ?_;rintro e w4 ⟨rfl,p3,j7⟩;rw [<-o2.out] at j7⊢;have i2:=zh j7;have i4:Hid (zc w2 w4):=Below.trans o9.out (p3.below o9.out.size (fun b hb=>by rw [hb,m6.out];exact DE _));have x8:Hid (zq w4):=D.out.ctx.v.ext i4.out;clear p3 j7
   go_wp2_with fail
   refine (wNew_calls t1.1 w4).mono ?_;rintro e w5 ⟨rfl,j4,j8⟩;obtain ⟨b,hb⟩:∃r,r=w4.heap.size:=⟨_,rfl⟩;rw [<-hb] at j8⊢;have n4:=zh j8;have f1:=zh (i2.out.ext j4);have V:Hid (r<b/\w2.heap.size<=b):=⟨by have:=za i2.out;omega,by have:=i4.out.size;omega⟩;have i5:Hid (zc w2 w5):=i4.out.trans j4;have o6:Hid (zq w5):=D.out.ctx.v.ext i5.out;clear hb j4 j8 m9 i2 o5 x8
   go_wp2_with fail
   refine (rText_calls w5 o6.out f1.out (by have:=b6.out.2.1;omega)).mono ?_;rintro e w6 ⟨rfl,j1,j9⟩;rw [<-o3.out] at j9⊢;have n5:=zh j9;have l6:Hid (RdAt w6 b (t1.1,false)):=j1.blk n4.out (by have:=V.out;omega);have d9:Hid (zc w2 w6):=Below.trans i5.out (j1.below i5.out.size (fun b hb=>by rw [hb,m6.out];exact DE _));have o7:Hid (zq w6):=D.out.ctx.v.ext d9.out;clear j1 j9 f1 n4
   go_wp2_with fail
   refine (rInts_calls w6 o7.out l6.out (by have:=b6.out.1;show t1.1.length<=_;omega)).mono ?_;rintro e w7 ⟨vn,rfl,j2,k4,e3⟩;rw [<-t7.out] at k4 e3;obtain ⟨An,cn,rfl,-⟩:=AW e3;have n6:Hid (RdAt w7 r t2.2):=j2.blk n5.out (by have:=V.out;omega);have i6:Hid (zc w2 w7):=Below.trans d9.out (j2.below d9.out.size (fun g hg=>by have:=V.out;omega));have o8:Hid (zq w7):=D.out.ctx.v.ext i6.out;have f9:=zh k4;have m8:=zh e3;clear j2 k4 e3 n5 l6 o6
   go_wp2_with fail
   refine (rInt_calls w7 o8.out f9.out (by have:=b6.out.2.2.2.1;omega)).mono ?_;rintro e w8 ⟨rfl,e2,k5⟩;rw [<-HQ.out] at k5⊢;have n7:Hid (RdAt w8 r t2.2):=e2.blk n6.out (by have:=V.out;omega);have i7:Hid (zc w2 w8):=Below.trans i6.out (e2.below i6.out.size (fun g hg=>by have:=V.out;omega));have x9:Hid (zq w8):=D.out.ctx.v.ext i7.out;have l7:=zh k5;have m0:Hid (zl w8 (fun b=>w6.heap.size<=b/\b<w8.heap.size) (.slice An c.1.length cn) c.1):=Bc.bound (Bc.of_own (own_chgR m8.out f9.out (by decide) e2)) (by decide);clear e2 k5 n6 f9 m8 o8 o7;go_upto_region 6 with fail;have a9:=zg.new w8 #[.slice An c.1.length cn,.int .i64 q.1,.int .i64 0,.string ⟨t2.1.toArray⟩] 77 (g:=w8.heap.size) rfl;have b7:zc w8 (w8.alloc (.cells #[.slice An c.1.length cn,.int .i64 q.1,.int .i64 0,.string ⟨t2.1.toArray⟩] 77)):=(zc.refl w8).alloc _;generalize w8.alloc _=w9 at a9 b7⊢;obtain ⟨gn,e6⟩:∃g,g=w8.heap.size:=⟨_,rfl⟩;rw [<-e6] at a9⊢;have l9:Hid (gn=w8.heap.size/\w2.heap.size<=gn):=⟨e6,by have:=i7.out.size;omega⟩;obtain ⟨n0,n1,n2,n3⟩:=zJ a9;have z0:=zc.rule n0;have z1:=zc.rule n1;have z2:=zc.rule n2;have z3:=zc.rule n3;have a9:=zh a9;have o:Hid (zc w2 w9):=i7.out.trans b7;have g9:Hid (zl w9 (fun b=>w6.heap.size<=b/\b<gn) (.slice An c.1.length cn) c.1):=by (show zl _ _ _ _);rw [e6];exact m0.out.below b7
   have a2:=zh (Dh w9 (n7.out.ext b7));have a8:=zh (Dh w9 (l7.out.ext b7));have x0:∀W,zc w9 W->W.cell? ⟨gx,0,none⟩=some vc:=fun W h=>x0 W (o.out.trans h)
   have x1:=fun W h=>x1 W (o.out.trans h)
   have x2:=fun W h=>x2 W (o.out.trans h)
   have x3:=fun W h=>x3 W (o.out.trans h)
   have s0:=fun W h=>s0 W (o.out.trans h)
   have hx:zc w9 w9:=zc.refl w9
   have U:Hid (∀W',zc w2 W'->Aa m s y=none->(∃v:Value,Ending.returned (.tuple #[])=.returned v)/\∃gx,W.heap.size<=gx/\J gx L.length W'):=fun W' h hn=>by
    refine ⟨⟨_,rfl⟩,gx,b5.out,?_⟩;have h1:=z4.out hn;rw [<-h1];exact HJ.out _ _ _ _ b5.out m1.out (zk.of_ext h)
   clear b7 e6 n0 n1 n2 n3 n7 l7 m0 x9;by_cases b1:t2.2.2=true
   ·have Q:Hid (Aa m s y=none):=by (show _=_);rw [a0.out,if_pos (.inl b1)]
    rw [b1] at a2;clear a0 b1
    go_wp2_with fail
    refine a2.out.mono ?_;rintro e wb ⟨rfl,rfl⟩
    go_wp2_with fail
    exact Ev (results_none rfl _ _ _) rfl (U.out _ o.out Q.out)
   ·have b1f:t2.2.2=false:=by simpa using b1
    rw [b1f] at a2;by_cases b2:q.2.2=true
    ·have Q:Hid (Aa m s y=none):=by (show _=_);rw [a0.out,if_pos (.inr (.inl b2))]
     rw [b2] at a8;clear a0 b1 b1f b2
     go_wp2_with fail
     refine a2.out.mono ?_;rintro e wb ⟨rfl,rfl⟩
     go_wp2_with fail
     refine a8.out.mono ?_;rintro e wb ⟨rfl,rfl⟩
     go_wp2_with fail
     exact Ev (results_none rfl _ _ _) rfl (U.out _ o.out Q.out)
    ·have b2f:q.2.2=false:=by simpa using b2
     rw [b2f] at a8;by_cases b3:q.1<=y.steps
     ·have Q:Hid (Aa m s y=none):=by (show _=_);rw [a0.out,if_pos (.inr (.inr b3))]
      clear a0 b1 b1f b2 b2f
      go_wp2_with fail
      refine a2.out.mono ?_;rintro e wb ⟨rfl,rfl⟩
      go_wp2_with fail
      refine a8.out.mono ?_;rintro e wb ⟨rfl,rfl⟩
      go_wp2_with fail
      exact Ev (results_none rfl _ _ _) rfl (U.out _ o.out Q.out)
     ·obtain ⟨rec,a7⟩:∃x,x=zU y.sg c.1 q.1:=⟨_,rfl⟩
      have a6:Hid (Aa m s y=if ¬ rec <+: T then none else if loadE m c.1 q.1≠0 then none else some ⟨c.1,q.1,y.fin+rec.length,zT y.sg c.1 q.1⟩):=by
       (show _=_)
       rw [a0.out,if_neg (fun h=>h.elim b1 fun h=>h.elim b2 b3),a7]
      have s2:y.sg.length<=1000:=by rw [i8.out.sg];omega
      have i3:Hid (∀W,Calls Tryz.prog 33 #[.string ⟨y.sg.toArray⟩] W fun e w'=>e=.returned (.func (.func 62) #[] #[.pointer (some ⟨W.heap.size,0,none⟩)])/\zc W w'/\CK w' W.heap.size y.sg):=fun W=>jSealer_calls y.sg W
      have c8:Hid (∀W g,zc w9 W->CK W g y.sg->Calls Tryz.prog 62 #[.slice An c.1.length cn,.int .i64 q.1,.pointer (some ⟨g,0,none⟩)] W fun e w'=>e=.returned (.string ⟨rec.toArray⟩)/\zk (·=g) W w'/\CK w' g (zT y.sg c.1 q.1)/\zq w'):=fun W g hW hg=>by
       rw [a7];obtain ⟨-,-,-,-,l1,l2,l3⟩:=b6.out;exact jSeal_calls W (D.out.ctx.v.ext (o.out.trans hW)) hg s2 (g9.out.below hW) l3 l1 l2
      have n8:=zh a7;clear a0 b1 b1f b2 b2f a7 s2
      go_wp2_with fail
      refine a2.out.mono ?_;rintro e wb ⟨rfl,rfl⟩
      go_wp2_with fail
      refine a8.out.mono ?_;rintro e wb ⟨rfl,rfl⟩;clear a2 a8;go_upto_region 7 with fail;go_cut [10] (fun v10 wc=>v10=.string ⟨rec.toArray⟩/\Hid (zc w9 wc))
      case first=>
       refine wp_dark (fun Q' hP e4=>?_) (fun c a a' w hd h=>by obtain ⟨t,d⟩:=a;obtain ⟨t',d'⟩:=a';cases hd;exact h);refine AK (S:=(fun W=>zc w9 W)) AC (hx.drew) fun zH=>?_;generalize w9.drew=wd at zH⊢;refine ze (i:=0) (v:=?v7) rfl (by kernel_rfl) (by kernel_rfl) (by kernel_rfl) (by kernel_rfl) (fun _ _ _ h=>hP _ _ _ _ (by rfl) h) (Or.inl ⟨?w7,?y7⟩) zH ?r7
       case w7=>rfl
       case y7=>(intro w M;go_simp;try with_reducible rfl)
       simp only [zd,DB];refine ze (i:=1) (v:=?v8) rfl (by kernel_rfl) (by kernel_rfl) (by kernel_rfl) (by kernel_rfl) (fun _ _ _ h=>hP _ _ _ _ (by rfl) h) (Or.inl ⟨?w8,?y8⟩) zH ?r8
       case w8=>rfl
       case y8=>(intro w M;go_simp;try with_reducible rfl)
       simp only [zd,DB];refine ze (i:=3) (v:=?v9) rfl (by kernel_rfl) (by kernel_rfl) (by kernel_rfl) (by kernel_rfl) (fun _ _ _ h=>hP _ _ _ _ (by rfl) h) (Or.inl ⟨?w9,?y9⟩) zH ?r9
       case w9=>rfl
       case y9=>(intro w M;go_simp;try with_reducible rfl)
       simp only [zd,DB];refine ze (i:=4) (v:=?v10) rfl (by kernel_rfl) (by kernel_rfl) (by kernel_rfl) (by kernel_rfl) (fun _ _ _ h=>hP _ _ _ _ (by rfl) h) (Or.inl ⟨?w10,?y10⟩) zH ?r10
       case w10=>rfl
       case y10=>(intro w M;go_simp;try with_reducible rfl)
       simp only [zd,DB];refine ze (i:=5) (v:=?v11) rfl (by kernel_rfl) (by kernel_rfl) (by kernel_rfl) (by kernel_rfl) (fun _ _ _ h=>hP _ _ _ _ (by rfl) h) (Or.inl ⟨?w11,?y11⟩) zH ?r11
       case w11=>rfl
       case y11=>(intro w M;go_simp;try with_reducible rfl)
       simp only [zd,DB];refine ze (i:=6) (v:=?v12) rfl (by kernel_rfl) (by kernel_rfl) (by kernel_rfl) (by kernel_rfl) (fun _ _ _ h=>hP _ _ _ _ (by rfl) h) (Or.inl ⟨?w12,?y12⟩) zH ?r12
       case w12=>rfl
       case y12=>(intro w M;go_simp;try with_reducible rfl)
       simp only [zd,DB];refine zt (rs:=[2]) (by kernel_rfl) (by simp) ?_;refine zj.cons rfl (fun K E=>?_) zj.nil;go_simp;go_at_call 33;refine (i3.out _).mono ?_;rintro e w10 ⟨rfl,p4,f5⟩;have f2:Hid (w9.heap.size<=wd.heap.size):=zH.size;generalize wd.heap.size=g10 at f5 f2⊢;have n9:=zh f5;go_simp;refine EI E (zH.trans p4) fun zH=>?_;clear E K;try simp only [zd,DB]
       refine zt (rs:=[7]) (by kernel_rfl) (by simp) ?_;refine zj.cons rfl (fun K E=>?_) zj.nil;go_simp;go_at_call 62;refine (c8.out _ _ zH n9.out).mono ?_;rintro e w11 ⟨rfl,p2,-,-⟩;have I:Hid (zc w9 w11):=Below.trans zH (p2.below zH.size (fun b hb=>by have:=f2.out;omega));go_simp;refine EI E (I.out) fun zH=>?_;clear E K;try simp only [zd,DB]
       refine zt (rs:=[8]) (by kernel_rfl) (by simp) ?_;refine zj.last rfl (by kernel_rfl) fun K E=>?_;go_simp;go_simp;refine E.out _ _ ?_;clear E K;refine Bh (by kernel_rfl) ?_ _;subst e4;go_wp2;go_meet;exact ⟨rfl,I⟩
      case rest=>
       obtain ⟨rfl,c9⟩:=hcut;obtain ⟨w10,rfl⟩:∃w10:World,w10=wc:=⟨_,rfl⟩;have hx:zc w9 w10:=c9.out;have f6:y.fin<=s.length:=l8.out.1;have f7:s.length<=40000000:=l8.out.2;have e1:ByteArray.extract ⟨s.toArray⟩ y.fin s.length=⟨T.toArray⟩:=by rw [HT.out];exact CQ s y.fin
       have c7:=zh (pre_calls T rec w10);by_cases hp:rec <+: T
       ·have d7:rec.isPrefixOf T=true:=List.isPrefixOf_iff_prefix.2 hp;rw [d7] at c7;have A3:=hp.length_le;have a1:Hid (Aa m s y=if loadE m c.1 q.1≠0 then none else some ⟨c.1,q.1,y.fin+rec.length,zT y.sg c.1 q.1⟩):=by (show _=_);rw [a6.out,if_neg (fun h=>h hp)]
        have s3:t2.1=zT y.sg c.1 q.1:=by
         obtain ⟨l0,-,-,-,l1,l2,l3⟩:=b6.out;have hb:=(body_len l3 l2).1;have hr:RecOk c.1 q.1:=⟨l3,l2,by omega⟩;rw [n8.out] at hp;have:=rec_seal hr hp;rw [<-o2.out,<-o3.out] at this;exact this
        have o1:=zh s3;have z7:T.length+y.fin=s.length:=by rw [HT.out,List.length_drop];omega
        have e5:IntKind.i64.wrap ((y.fin:Int)+(rec.length:Int))=((y.fin+rec.length:Nat):Int):=by rw [DZ];omega
        have t9:=zh e5;have G:=D.out.ctx.bm;have g0:=zc.rule (G.cell (k:=0) rfl);have g1:=zc.rule (G.cell (k:=1) rfl);have g2:=zc.rule (G.cell (k:=2) rfl);have g3:=zc.rule (G.cell (k:=3) rfl);have g4:=zc.rule (G.cell (k:=4) rfl);have g5:=zc.rule (G.cell (k:=5) rfl);have g0:=fun W h=>g0 W (o.out.trans h)
        have g1:=fun W h=>g1 W (o.out.trans h)
        have g2:=fun W h=>g2 W (o.out.trans h)
        have g3:=fun W h=>g3 W (o.out.trans h)
        have g4:=fun W h=>g4 W (o.out.trans h)
        have g5:=fun W h=>g5 W (o.out.trans h)
        have i1:Hid (Calls Tryz.prog 31 #[.agg #[.int .i64 m.w,.int .i64 m.h,.int .i64 m.l,.slice Af m.free.length cf,.slice Au m.up.length cu,.slice At m.tasks.length ct],.slice An c.1.length cn,.int .i64 q.1] w10 fun e w'=>∃v,e=.returned (.tuple #[v,.int .i64 (loadE m c.1 q.1)])/\zc w10 w'):=by
         refine (load_calls q.1 w10 ((D.out.ctx.mz.bound).below (o.out.trans hx)) HL.out (g9.out.below hx) (by have:=b6.out.2.2.2.2.1;omega) (fun b hb=>?_)).mono ?_
         ·have h1:=(o.out.trans hx).size;omega
         ·rintro e w' ⟨v,rfl,hE,-⟩;exact ⟨v,rfl,hE⟩
        obtain ⟨le,k9⟩:∃e,e=loadE m c.1 q.1:=⟨_,rfl⟩;rw [<-k9] at i1 a1;have B8:=zh k9;clear hp d7 s3 G k9 A3 i3 c8 a6 e5 z7
        go_wp2_with fail
        refine c7.out.mono ?_;rintro e wb ⟨rfl,rfl⟩
        go_wp2_with fail
        refine i1.out.mono ?_;rintro e w11 ⟨vl,rfl,f3⟩;have I:Hid (zc w9 w11):=c9.out.trans f3;clear f3 hx c7 i1 g0 g1 g2 g3 g4 g5;by_cases b9:le=0
        ·have q6:(le != 0)=false:=by simp [b9]
         have x5:Hid (Aa m s y=some ⟨c.1,q.1,y.fin+rec.length,zT y.sg c.1 q.1⟩):=by (show _=_);rw [a1.out,if_neg (fun h=>h b9)]
         have hx:zc w9 w11:=I.out;have e5:=t9.out;have fn0:∀j,w11.frozen? ⟨gn,j,none⟩=false:=fun j=>(a9.out.ext hx).frozen j
         have c6:=zh (D.out.x.ext (o.out.trans hx));have fx0:∀j,w11.frozen? ⟨gx,j,none⟩=false:=fun j=>c6.out.frozen j
         have q9:gx≠gn:=by have h1:=za D.out.x;have h2:=l9.out.2;omega
         have B4:gn≠gx:=fun e=>q9 e.symm
         clear b9 a1
         go_wp2_with fail
         have q4:gx<w2.heap.size:=za D.out.x;have f8:=l9.out.2;have s4:=d9.out.size;have s6:=D.out.sz;have f4:zc w2 (w11.setCell ⟨gn,2,none⟩ (.int .i64 ((y.fin:Int)+(rec.length:Int)))):=Below.setCell (o.out.trans I.out) (p:=⟨gn,2,none⟩) f8 _;have d4:zk (fun b=>b=gx) w2 (((((w11.setCell ⟨gn,2,none⟩ (.int .i64 ((y.fin:Int)+(rec.length:Int)))).setCell ⟨gx,0,none⟩ (.slice An c.1.length cn)).setCell ⟨gx,1,none⟩ (.int .i64 q.1)).setCell ⟨gx,2,none⟩ (.int .i64 ((y.fin:Int)+(rec.length:Int)))).setCell ⟨gx,3,none⟩ (.string ⟨t2.1.toArray⟩)):=((((zk.of_ext (X:=fun b=>b=gx) f4).set gx 0 _ rfl).set gx 1 _ rfl).set gx 2 _ rfl).set gx 3 _ rfl;have k6:zg (((((w11.setCell ⟨gn,2,none⟩ (.int .i64 ((y.fin:Int)+(rec.length:Int)))).setCell ⟨gx,0,none⟩ (.slice An c.1.length cn)).setCell ⟨gx,1,none⟩ (.int .i64 q.1)).setCell ⟨gx,2,none⟩ (.int .i64 ((y.fin:Int)+(rec.length:Int)))).setCell ⟨gx,3,none⟩ (.string ⟨t2.1.toArray⟩)) gx 77 #[.slice An c.1.length cn,.int .i64 q.1,.int .i64 ((y.fin:Int)+(rec.length:Int)),.string ⟨t2.1.toArray⟩]:=((((c6.out.setOther (a:=⟨gn,2,none⟩) (by show gx≠gn;omega) _).set (k:=0) _).set (k:=1) _).set (k:=2) _).set (k:=3) _;have p9:zk (fun b=>b=gn\/b=gx) w11 (((((w11.setCell ⟨gn,2,none⟩ (.int .i64 ((y.fin:Int)+(rec.length:Int)))).setCell ⟨gx,0,none⟩ (.slice An c.1.length cn)).setCell ⟨gx,1,none⟩ (.int .i64 q.1)).setCell ⟨gx,2,none⟩ (.int .i64 ((y.fin:Int)+(rec.length:Int)))).setCell ⟨gx,3,none⟩ (.string ⟨t2.1.toArray⟩)):=(((((zk.refl (fun b=>b=gn\/b=gx) w11).set gn 2 _ (.inl rfl)).set gx 0 _ (.inr rfl)).set gx 1 _ (.inr rfl)).set gx 2 _ (.inr rfl)).set gx 3 _ (.inr rfl);have j5:zl (((((w11.setCell ⟨gn,2,none⟩ (.int .i64 ((y.fin:Int)+(rec.length:Int)))).setCell ⟨gx,0,none⟩ (.slice An c.1.length cn)).setCell ⟨gx,1,none⟩ (.int .i64 q.1)).setCell ⟨gx,2,none⟩ (.int .i64 ((y.fin:Int)+(rec.length:Int)))).setCell ⟨gx,3,none⟩ (.string ⟨t2.1.toArray⟩)) (fun b=>W.heap.size<=b/\b≠gx) (.slice An c.1.length cn) c.1:=((g9.out.below I.out).keep (p9.same fun b hb e=>by omega)).weaken fun b hb=>by omega
         generalize (((((w11.setCell ⟨gn,2,none⟩ (.int .i64 ((y.fin:Int)+(rec.length:Int)))).setCell ⟨gx,0,none⟩ (.slice An c.1.length cn)).setCell ⟨gx,1,none⟩ (.int .i64 q.1)).setCell ⟨gx,2,none⟩ (.int .i64 ((y.fin:Int)+(rec.length:Int)))).setCell ⟨gx,3,none⟩ (.string ⟨t2.1.toArray⟩))=wf at d4 k6 j5⊢
         have y0:Hid (zg wf gx 77 (jsc (.slice An c.1.length cn) ⟨c.1,q.1,y.fin+rec.length,zT y.sg c.1 q.1⟩)):=by
          (show zg _ _ _ #[.slice An c.1.length cn,.int .i64 q.1,.int .i64 ((y.fin+rec.length:Nat):Int),.string ⟨(zT y.sg c.1 q.1).toArray⟩])
          rw [<-o1.out,Int.natCast_add];exact k6
         have t8:Hid (JCtx wf gi gs gm id s (mzc m Af cf Au cu At ct) m R):=by
          have h1:=HO.out.wW;have h2:=HO.out.b;have h3:=b5.out;exact D.out.ctx.chg d4 (by omega) (by omega) (by omega) (fun b hb e=>by have:=(HO.out.rb b hb).1;omega) (fun g e=>HO.out.nv g (by omega))
         have x4:Hid (J gx (k+1) wf):=HJ.out _ _ _ _ b5.out m1.out d4;have w0:=zh j5;have x6:Hid (W.heap.size<=wf.heap.size):=DG s6 d4.size;have m4:Hid (L[k+1]?=some ⟨c.1,q.1,y.fin+rec.length,zT y.sg c.1 q.1⟩):=z5.out _ x5.out;have C3:k+1<L.length:=(Ew.1 m4.out).1;clear f4 d4 k6 p9 j5 q4 f8 s4 s6 e5 fn0 fx0 hx
         go_roundg (L.length - (k+1))
         case measure=>omega
         case rel=>exact ⟨k+1,_,_,m4.out,by omega,⟨t8.out,y0.out,w0.out,x6.out⟩,x4.out⟩
        ·have q6:(le != 0)=true:=by simp [b9]
         have Q:Hid (Aa m s y=none):=by (show _=_);rw [a1.out,if_pos b9]
         clear b9 a1
         go_wp2_with fail
         exact Ev (results_none rfl _ _ _) rfl (U.out _ (o.out.trans I.out) Q.out)
       ·have d7:rec.isPrefixOf T=false:=by
         cases h:rec.isPrefixOf T with
         | false=>rfl
         | true=>exact absurd (List.isPrefixOf_iff_prefix.1 h) hp
        rw [d7] at c7;have Q:Hid (Aa m s y=none):=by (show _=_);rw [a6.out,if_pos hp]
        clear hp d7 a6 i3 c8
        go_wp2_with fail
        refine c7.out.mono ?_;rintro e wb ⟨rfl,rfl⟩
        go_wp2_with fail
        exact Ev (results_none rfl _ _ _) rfl (U.out _ (o.out.trans c9.out) Q.out)
end
end Go.Proofs.YtfjjdmpndmbfoaaGreatDoor
