import Derived.Test.YtfjjdmpndmbfoaaGreatDoorWTc
import Derived.Shelf.SlGeneric
import Derived.Shelf.SortM.Plain
import Derived.Shelf.SortM.SortNone
import Derived.Shelf.SlicesG.CompactI
import Derived.Shelf.SlicesE.DeleteFunc
import Derived.Ground.SlgmProg
import Derived.Ground.SlgnProg
import Derived.Test.YtfjjdmpndmbfoaaGreatDoorRows
import Derived.Lib.OwnBridge
import Derived.Sort.OwnSortedInts
import Derived.Laws.IdiomRangeMap
set_option linter.unusedVariables false
set_option linter.unusedSimpArgs false
set_option maxRecDepth 100000
set_option maxHeartbeats 16000000
namespace Go.Proofs.YtfjjdmpndmbfoaaGreatDoor
variable {seen:Array Nat} {ps:List (List Int)} {ch l us:List Int} {m:MZ} {B g g1 g2 gu n:Nat} {ok:Nat->Prop} {P:Program} {f ts u v vc vp:Value} {w w1:World}
section
open Go.RowKit
def GivesB {α:Type} (n:Nat) (P:Program) (g:Nat) (lb:Array Value) (encs:α->Array Value) (G:Nat->α->World->Prop) (N:Nat) (w:World):Prop:=
 ∀(l:Nat) (J:Nat->World->Prop) (Jx:World->Prop) (W:World),zc w W->w.heap.size<=l->l<W.heap.size->(∀k A B,J k A->Below W.heap.size A B->J k B)->(∀A B,Jx A->Below W.heap.size A B->Jx B)->
  (∀k x W1,k<N->J k W1->G k x W1->YieldAt Fence.wide (n - 1) P l (encs x) W1 fun e W'=>(e=.returned (.bool true)/\J (k+1) W'/\W1.grownBy W' (some l))\/(e=.returned (.bool false)/\Jx W'))->
  J 0 W->
  CallsIn Fence.wide n P g (#[.func (.yield l) #[] #[]]++lb) W fun e W'=>(∃v,e=.returned v)/\(J N W'\/Jx W')
def postB (B k:Nat) (I:Nat->World->Prop) (Ix:Code->World->Prop) (W:World):Exit->Act->World->Prop
 | .normal,_,W'=>zc W W'/\I (k+1) W'
 | .ret,_,W'=>(∀b,B<=b->b<W.heap.size->W'.heap[b]?=W.heap[b]?)/\Ix .ret W'
 | .exit id,_,W'=>(∀b,B<=b->b<W.heap.size->W'.heap[b]?=W.heap[b]?)/\Ix (.exit id) W'
 | .goto t,_,W'=>(∀b,B<=b->b<W.heap.size->W'.heap[b]?=W.heap[b]?)/\Ix (.goto t) W'
 | .panic _,_,_=>False
 | .outgrown,_,_=>False
theorem AO {l:Nat} {W:World} (o:Obj) (h:B<=l) (d:l<W.heap.size):Below B W (W.putObj l o):=
 (Below.refl B W).grown (grownBy_putObj' W l o) (by omega) (fun k e=>by cases e;exact h)
theorem wpIn_loopB {α:Type} {g:Operand} {ps:Array Tmp} {assign body:Code} {Q:Exit->Act->World->Prop} {a:Act}
  {gf:Nat} {lb:Array Value} (hg:a.eval g=.func (.func gf) #[] lb) (eg:∀args w,(callFunc gf args).run P w=.ok (.enter gf args) w)
  {encs:α->Array Value} {G:Nat->α->World->Prop} {N:Nat} {w0:World} (b3:GivesB (n - 1) P gf lb encs G N w0) (b2:zc w0 w) (c6:∀x,(encs x).size=ps.size)
  (I:Nat->World->Prop) (Ix:Code->World->Prop) (hI:∀k A B,I k A->Below w.heap.size A B->I k B) (hIx:∀c A B,Ix c A->Below w.heap.size A B->Ix c B)
  (hG:∀k x A l,G k x A->w.heap.size<l->l<A.heap.size->(∃r,A.heap[l]?=some (.loop r))->∀o,G k x (A.putObj l o)) (h0:I 0 w) (a₁:α->Act)
  (hassign:∀(l:Nat) (x:α) (W:World) (K:Act->World->Prop),K (a₁ x) W->
   assign.wpIn (Fence.wide.inRound l) (n - 1 - 1) P (Exit.then K (fun _ _ _=>False)) { tmps:=(ps.zip (encs x)).foldl (fun t (p,v)=>t.setIfInBounds p v) a.tmps,defers:=[] } W)
  (hbody:∀(l k:Nat) (x:α) (W:World),k<N->I k W->G k x W->w.heap.size<W.heap.size->body.wpIn (Fence.wide.inRound l) (n - 1 - 1) P (postB w.heap.size k I Ix W) (a₁ x) W)
  (hdone:∀(D:Nat) (W:World),w.heap.size<=D->I N W->W.heap[D]?=some (.deferred (some []))->Q .normal { a with defers:={ target:=.collected D,args:=#[] } :: a.defers } W)
  (a9:∀(D:Nat) (c:Code) (W:World),w.heap.size<=D->Ix c W->W.heap[D]?=some (.deferred (some []))->c.wpIn Fence.wide n P Q { a with defers:={ target:=.collected D,args:=#[] } :: a.defers } W):
  (Code.rangeFunc g ps assign body).wpIn Fence.wide n P Q a w:=by
 refine wpIn_rangeFunc ?_;intro fn hfn;obtain ⟨rec,E⟩:∃rec:LoopState->Option Code->Loop,rec=fun st pe=>{ state:=st,pending:=pe,fn,tmps:=a.tmps,params:=ps,assign,body,defers:=w.heap.size }:=⟨_,rfl⟩
 obtain ⟨W1,a4⟩:∃W1,(w.alloc (.deferred (some []))).alloc (.loop (rec .ready none))=W1:=⟨_,rfl⟩;have d4:W1.heap.size=w.heap.size+2:=by rw [<-a4];simp
 have b7:W1.heap[w.heap.size+1]?=some (.loop (rec .ready none)):=by
  rw [<-a4];have:=World.alloc_heap_new (w.alloc (.deferred (some []))) (.loop (rec .ready none))
  rwa [World.size_alloc] at this
 have b6:W1.heap[w.heap.size]?=some (.deferred (some [])):=by
  rw [<-a4];exact (DW _ _ _ (by simp)).trans (World.alloc_heap_new w _)
 have b1:zc w W1:=by rw [<-a4];exact ((zc.refl w).alloc _).alloc _
 refine ⟨w.heap.size+1,[{ target:=.collected w.heap.size,args:=#[] }],W1,{ target:=.fn (.func gf) lb,args:=#[.func (.yield (w.heap.size+1)) #[] #[]] },W1,gf,
  #[.func (.yield (w.heap.size+1)) #[] #[]]++lb,W1,?_,?_,fun _ _=>trivial,?_,fun h=>absurd h (by simp [Fence.wide]),?_⟩
 ·rw [<-a4,E];exact run_enterLoop_outer _ _ _ _ _
 ·simp only [resolve,hg];simp [go_sem]
 ·simp [invoke,go_sem,eg]
 ·refine (b3 (w.heap.size+1)
   (fun k W=>I k W/\W.heap[w.heap.size+1]?=some (.loop (rec .ready none))/\W.heap[w.heap.size]?=some (.deferred (some []))/\w.heap.size+1<W.heap.size)
   (fun W=>∃c,Ix c W/\W.heap[w.heap.size+1]?=some (.loop (rec .done (some c)))/\W.heap[w.heap.size]?=some (.deferred (some [])))
   W1 (b2.trans b1) (by have:=b2.size;omega) (by omega) ?_ ?_ ?_ ⟨hI _ _ _ h0 b1,b7,b6,by omega⟩).mono ?_
  ·rintro k A B ⟨h1,h2,h3,h4⟩ M;exact ⟨hI _ _ _ h1 (M.mono (by omega)),(M.block _ (by omega)).trans h2,(M.block _ (by omega)).trans h3,Ef h4 M.size⟩
  ·rintro A B ⟨c,h1,h2,h3⟩ M;exact ⟨c,hIx _ _ _ h1 (M.mono (by omega)),(M.block _ (by omega)).trans h2,(M.block _ (by omega)).trans h3⟩
  ·-- one round
   rintro k x W c0 ⟨hi,hl,hD,a2⟩ b9;have hy:=run_yield (P:=P) (args:=encs x) hl (by rw [E];exact c6 x);rw [E] at hy;refine ⟨fn,_,assign,body,hy,roundIn_of_wpIn hfn (hassign _ x W _ ⟨_,run_beginRound hl (by rw [E]),?_⟩)⟩;have a5:(W.putObj (w.heap.size+1) (.loop { rec .ready none with state:=.busy })).heap[w.heap.size+1]?=some (.loop { rec .ready none with state:=.busy }):=World.putObj_heap_same a2;have a6:(W.putObj (w.heap.size+1) (.loop { rec .ready none with state:=.busy })).heap[w.heap.size]?=some (.deferred (some [])):=(World.putObj_heap_other (by omega)).trans hD;have U:w.heap.size+1<(W.putObj (w.heap.size+1) (.loop { rec .ready none with state:=.busy })).heap.size:=(Ex.1 a5).1;have b8:W.grownBy (W.putObj (w.heap.size+1) (.loop { rec .ready none with state:=.busy })) (some (w.heap.size+1)):=grownBy_putObj' _ _ _;refine wpIn_mono (hbody _ k x _ c0 (hI _ _ _ hi (AO _ (by omega) a2)) (hG _ _ _ _ b9 (by omega) a2 ⟨_,hl⟩ _) (Nat.lt_trans (Nat.lt_succ_self _) U)) ?_;generalize W.putObj (w.heap.size+1) (.loop { rec .ready none with state:=.busy })=W2 at*
   have fin:∀(jump:Option Code) (W3:World),W3.heap[w.heap.size+1]?=some (.loop { rec .ready none with state:=.busy })->
     (Instr.endRound (w.heap.size+1) jump).run P W3=.ok (.bool jump.isNone) (W3.putObj (w.heap.size+1) (.loop (rec (if jump.isNone then .ready else .done) jump))):=fun jump W3 J=>by
    have:=run_endRound (P:=P) jump J;rw [E] at this⊢;exact this
   rintro e a3 W3 hp
   cases e with
   | normal=>
    obtain ⟨a0,a1⟩:=hp;have J:=(a0.block _ U).trans a5;have d:=(Ex.1 J).1;have V:=(a0.block _ (by omega)).trans a6;refine ⟨_,_,fin none W3 J,.inl ⟨rfl,⟨hI _ _ _ a1 (AO _ (by omega) d),World.putObj_heap_same d,(World.putObj_heap_other (by omega)).trans V,?_⟩,?_⟩⟩
    ·exact (Ex.1 (World.putObj_heap_same d)).1
    ·exact (b8.trans ⟨a0.os,a0.tape,a0.output,a0.size,fun i hi _=>a0.block i hi⟩).trans (grownBy_putObj' _ _ _)
   | ret=>
    obtain ⟨O,a1⟩:=hp;have J:=(O _ (by omega) U).trans a5;have d:=(Ex.1 J).1;have V:=(O _ (DE _) (by omega)).trans a6;exact ⟨_,_,fin (some .ret) W3 J,.inr ⟨rfl,.ret,hIx _ _ _ a1 (AO _ (by omega) d),World.putObj_heap_same d,(World.putObj_heap_other (by omega)).trans V⟩⟩
   | exit id=>
    obtain ⟨O,a1⟩:=hp;have J:=(O _ (by omega) U).trans a5;have d:=(Ex.1 J).1;have V:=(O _ (DE _) (by omega)).trans a6;exact ⟨_,_,fin (some (.exit id)) W3 J,.inr ⟨rfl,.exit id,hIx _ _ _ a1 (AO _ (by omega) d),World.putObj_heap_same d,(World.putObj_heap_other (by omega)).trans V⟩⟩
   | goto t=>
    obtain ⟨O,a1⟩:=hp;have J:=(O _ (by omega) U).trans a5;have d:=(Ex.1 J).1;have V:=(O _ (DE _) (by omega)).trans a6;exact ⟨_,_,fin (some (.goto t)) W3 J,.inr ⟨rfl,.goto t,hIx _ _ _ a1 (AO _ (by omega) d),World.putObj_heap_same d,(World.putObj_heap_other (by omega)).trans V⟩⟩
   | panic ch=>exact hp.elim
   | outgrown=>exact hp.elim
  ·-- behind the iterator
   rintro e W2 ⟨⟨v,rfl⟩,(⟨hi,hl,hD,a2⟩ | ⟨c,hi,hl,hD⟩)⟩
   ·exact ⟨none,_,by have:=run_endLoop (P:=P) hl (by rw [E];simp);rw [E] at this;exact this,hdone _ _ (DE _) (hI _ _ _ hi (AO _ (by omega) a2)) ((World.putObj_heap_other (by omega)).trans hD)⟩
   ·have a2:=(Ex.1 hl).1;exact ⟨some c,_,by have:=run_endLoop (P:=P) hl (by rw [E];simp);rw [E] at this;exact this,a9 _ c _ (DE _) (hIx _ _ _ hi (AO _ (by omega) a2)) ((World.putObj_heap_other (by omega)).trans hD)⟩
end
section
open Go.RowKit
attribute [local go_sem ↓] Go.wp_at_zero Go.wp_at_succ
theorem AM.freeCell {t:Nat} (h:AM w ok g m ch ps us f u ts vc vp gu) (hfn:∀f∈m.free,(f.length:Int)=m.n) (ht:t<m.free.length) {n:Int} (h0:0<=n) (h1:n<m.n):
  ∃b off c b' off' l c',f=.slice (some ⟨b,off,none⟩) m.free.length c/\w.cell? ⟨b,off+t,none⟩=some (.slice (some ⟨b',off',none⟩) l c')/\n<(l:Int)/\l<=c'/\m.free.length<=c/\w.cell? ⟨b',off'+n.toNat,none⟩=some (.bool (zm m t n)):=by
 obtain ⟨fr',up',ts',he,o,_,_⟩:=h.maze;injection he with he;injection he with he;simp only [List.cons.injEq,and_true,true_and] at he;obtain ⟨rfl,rfl,rfl⟩:=he;obtain ⟨vsf,⟨Af,cf,rfl,J,Q⟩,K⟩:=o;obtain ⟨bf,off3,uf,rfl,_,E,G⟩:=Bt Q K ht ht;have M:=hfn _ (DF ht);obtain ⟨A4,c4,rfl,I,O⟩:=G;have D:n.toNat<(m.free[t]).length:=by omega
 obtain ⟨b4,off4,rfl,_,d⟩:=CE O D D;have o:(m.free[t])[n.toNat]=zm m t n:=by simp [zm,ht,D]
 rw [o] at d;exact ⟨bf,off3,cf,b4,off4,_,c4,rfl,E,by omega,I,J,d⟩
theorem cand1_calls (t:Nat) (n:Int) (w:World) (h:AM w ok g m ch ps us f u ts vc vp gu) (hfn:∀f∈m.free,(f.length:Int)=m.n) (ht:t<m.free.length)
  (M:w.cell? ⟨g1,0,none⟩=some (.pointer (some ⟨g,0,none⟩))) (O:w.cell? ⟨g2,0,none⟩=some (.int .i64 t)) (h0:0<=n) (h1:n<m.n):
  Calls Tryz.prog 93 #[.int .i64 n,.pointer (some ⟨g1,0,none⟩),.pointer (some ⟨g2,0,none⟩)] w fun e w'=>e=.returned (.bool (zm m t n && !decide (n∈us)))/\zB w w':=by
 obtain ⟨r0,r1,r2,r3,r4,r5,r6,r7,r8⟩:=h.rules;obtain ⟨b,off,c,b',off',l,c',rfl,K,hl,U,Q,D⟩:=h.freeCell hfn ht h0 h1;have G:=h.us;clear h hfn;have hx:=zc.refl w;have a0:(t:Int)<(m.free.length:Int):=by omega
 have V:(0:Int)<=(t:Int):=by omega
 obtain ⟨fb,E⟩:=EH (zm m t n);rw [<-E] at D⊢;clear E h1;by_cases o:n∈us
 ·have J:=fun q=>look_t (G.below ((zc.refl w).drewN q)) o
  have I:=zh o;clear o;have d:Hid ((fb && !decide (n∈us))=false):=by show _=false;rw [DH I.out];cases fb <;> rfl
  cases fb with
  | false=>
   go_enter Tryz.func93,Tryz.ntmps93
   go_wp2_with fail
   go_quiet (fail)
   go_wp2;go_ret;exact ⟨zp d.out.symm,(zB.refl w).more _⟩
  | true=>
   go_enter Tryz.func93,Tryz.ntmps93
   go_wp2_with fail
   go_quiet (fail)
   go_wp2;go_ret;exact ⟨zp d.out.symm,(zB.refl w).more _⟩
 ·have J:=fun q=>look_f (G.below ((zc.refl w).drewN q)) o
  have I:=zh o;clear o;have d:Hid ((fb && !decide (n∈us))=fb):=by show _=fb;rw [DI I.out];cases fb <;> rfl
  cases fb with
  | false=>
   go_enter Tryz.func93,Tryz.ntmps93
   go_wp2_with fail
   go_quiet (fail)
   go_wp2;go_ret;exact ⟨zp d.out.symm,(zB.refl w).more _⟩
  | true=>
   go_enter Tryz.func93,Tryz.ntmps93
   go_wp2_with fail
   go_quiet (fail)
   go_wp2;go_ret;exact ⟨zp d.out.symm,(zB.refl w).more _⟩
theorem left11_calls (t:Nat) (n:Int) (w:World) (h:AM w ok g m ch ps us f u ts vc vp gu) (hfn:∀f∈m.free,(f.length:Int)=m.n) (ht:t<m.free.length)
  (M:w.cell? ⟨g1,0,none⟩=some (.pointer (some ⟨g,0,none⟩))) (O:w.cell? ⟨g2,0,none⟩=some (.int .i64 t)) (h0:0<=n) (h1:n<m.n):
  Calls Tryz.prog 133 #[.int .i64 n,.pointer (some ⟨g1,0,none⟩),.pointer (some ⟨g2,0,none⟩)] w fun e w'=>e=.returned (.bool (!zm m t n || decide (n∈us)))/\zB w w':=by
 obtain ⟨r0,r1,r2,r3,r4,r5,r6,r7,r8⟩:=h.rules;obtain ⟨b,off,c,b',off',l,c',rfl,K,hl,U,Q,D⟩:=h.freeCell hfn ht h0 h1;have G:=h.us;clear h hfn;have hx:=zc.refl w;have a0:(t:Int)<(m.free.length:Int):=by omega
 have V:(0:Int)<=(t:Int):=by omega
 obtain ⟨fb,E⟩:=EH (zm m t n);rw [<-E] at D⊢;clear E h1;by_cases o:n∈us
 ·have J:=fun q=>look_t (G.below ((zc.refl w).drewN q)) o
  have I:=zh o;clear o;have d:Hid ((!fb || decide (n∈us))=true):=by show _=true;rw [DH I.out];cases fb <;> rfl
  cases fb with
  | false=>
   go_enter Tryz.func133,Tryz.ntmps133
   go_wp2_with fail
   go_quiet (fail)
   go_wp2;go_ret;exact ⟨zp d.out.symm,(zB.refl w).more _⟩
  | true=>
   go_enter Tryz.func133,Tryz.ntmps133
   go_wp2_with fail
   go_quiet (fail)
   go_wp2;go_ret;exact ⟨zp d.out.symm,(zB.refl w).more _⟩
 ·have J:=fun q=>look_f (G.below ((zc.refl w).drewN q)) o
  have I:=zh o;clear o;have d:Hid ((!fb || decide (n∈us))=!fb):=by show _=!fb;rw [DI I.out];cases fb <;> rfl
  cases fb with
  | false=>
   go_enter Tryz.func133,Tryz.ntmps133
   go_wp2_with fail
   go_quiet (fail)
   go_wp2;go_ret;exact ⟨zp d.out.symm,(zB.refl w).more _⟩
  | true=>
   go_enter Tryz.func133,Tryz.ntmps133
   go_wp2_with fail
   go_quiet (fail)
   go_wp2;go_ret;exact ⟨zp d.out.symm,(zB.refl w).more _⟩
theorem open1_calls {gs g5:Nat} {s:List Int} (n:Int) (w:World) (d:zC w gs s) (D:w.cell? ⟨g5,0,none⟩=some (.map (some gs))):
  Calls Tryz.prog 102 #[.int .i64 n,.pointer (some ⟨g5,0,none⟩)] w fun e w'=>e=.returned (.bool (decide (n∈s)))/\w=w':=by
 by_cases h:n∈s
 ·have o:=look_t d h;rw [DH h];clear h d
  go_enter Tryz.func102,Tryz.ntmps102
  go_wp2;go_ret;exact ⟨rfl,rfl⟩
 ·have o:=look_f d h;rw [DI h];clear h d
  go_enter Tryz.func102,Tryz.ntmps102
  go_wp2;go_ret;exact ⟨rfl,rfl⟩
end
section
open Go.Shelf
def sortA_ren:Go.Shelf.Ren:=⟨fun | 5=>128 | 8=>150 | 7=>149 | 19=>171 | 20=>172 | 10=>162 | 11=>163 | 12=>164 | 13=>165 | 14=>166 | 15=>167 | 16=>168 | 17=>169 | 18=>170 | 30=>184 | 31=>185 | 32=>186 | 33=>187 | 34=>188 | 35=>189 | 40=>198 | n=>n,fun | 23=>39 | 25=>3 | 3=>3 | 32=>137 | 22=>39 | 0=>0 | 44=>211 | 46=>174 | 4=>4 | 36=>205 | 35=>204 | 41=>168 | 5=>5 | 9=>9 | 53=>222 | 57=>226 | 63=>234 | 64=>235 | n=>n,fun | n=>n⟩
theorem sortA:Go.Proofs.SlLaysM.n5 Tryz.prog sortA_ren:=by
 constructor
 all_goals try first | kernel_rfl | (intro _;kernel_rfl)
 exact ⟨Tryz.f128.name,by decide,by kernel_rfl⟩;exact ⟨Tryz.f149.name,by decide,by kernel_rfl⟩;exact ⟨Tryz.f162.name,by decide,by kernel_rfl⟩;exact ⟨Tryz.f163.name,by decide,by kernel_rfl⟩;exact ⟨Tryz.f164.name,by decide,by kernel_rfl⟩;exact ⟨Tryz.f165.name,by decide,by kernel_rfl⟩;exact ⟨Tryz.f166.name,by decide,by kernel_rfl⟩;exact ⟨Tryz.f167.name,by decide,by kernel_rfl⟩;exact ⟨Tryz.f168.name,by decide,by kernel_rfl⟩;exact ⟨Tryz.f169.name,by decide,by kernel_rfl⟩;exact ⟨Tryz.f170.name,by decide,by kernel_rfl⟩;exact ⟨Tryz.f184.name,by decide,by kernel_rfl⟩;exact ⟨Tryz.f187.name,by decide,by kernel_rfl⟩;exact ⟨Tryz.f188.name,by decide,by kernel_rfl⟩;exact ⟨Tryz.f189.name,by decide,by kernel_rfl⟩;exact ⟨Tryz.f198.name,by decide,by kernel_rfl⟩
def compactA_ren:Go.Shelf.Ren:=⟨fun | 43=>94 | n=>n,fun | 22=>39 | 23=>3 | 3=>3 | 4=>4 | 0=>0 | n=>n,fun | n=>n⟩
theorem compactA:Go.Proofs.SlLaysN.n43 Tryz.prog compactA_ren:=by
 constructor
 all_goals try first | kernel_rfl | (intro _;kernel_rfl)
 exact ⟨Tryz.f94.name,by decide,by kernel_rfl⟩
def dfIA_ren:Go.Shelf.Ren:=⟨fun | 10=>132 | 6=>78 | n=>n,fun | 22=>39 | 23=>3 | 25=>57 | 3=>3 | 4=>4 | 0=>0 | n=>n,fun | n=>n⟩
theorem dfIA:Go.Proofs.SlLaysH.n10 Tryz.prog dfIA_ren:=by
 constructor
 all_goals try first | kernel_rfl | (intro _;kernel_rfl)
 exact ⟨Tryz.f78.name,by decide,by kernel_rfl⟩;exact ⟨Tryz.f132.name,by decide,by kernel_rfl⟩
end
section
open Go.RowKit Go.Sort Go.Shelf
theorem holds_own {cap:Nat} (h:zY w B (.slice (some ⟨g,0,none⟩) l.length cap) l):Holds (Value.int .i64) w g 0 l.toArray:=by
 intro j o;have d:j<l.length:=by simpa using o
 refine ⟨?_,by have:=World.ownsRow.frozenAt h j;simpa using this⟩;have:=World.ownsRow.cellAt h j (by omega);rw [Nat.zero_add,this];simp [getElem!_pos,d]
def BZ (l:List Int):List Int:=l.mergeSort fun x y=>decide (x<=y)
theorem sort_calls (h:Mk w1 w v l) (Q:l.length<=1000000000000):Calls Tryz.prog 128 #[v] w fun e w'=>e=.returned (.tuple #[])/\Mk w1 w' v (BZ l):=by
 have d:(BZ l).length=l.length:=by unfold BZ;rw [List.length_mergeSort]
 rcases En l.length with h0 | h0
 ·have D:=DV h0;subst D;obtain ⟨A,c,rfl,_⟩:=h.slice;have o:=AnyM.slices_Sort_int_none sortA A c w;change Calls Tryz.prog 128 _ _ _ at o;refine Calls.mono o ?_;rintro e w' ⟨rfl,rfl⟩;exact ⟨rfl,h.cast (by simp [BZ])⟩
 ·obtain ⟨g,cap,rfl,O,G⟩:=World.ownsRow.form h.own h0;have o:=AnyM.slices_Sort_int sortA g 0 cap l w (holds_own h.own) G (by omega);change Calls Tryz.prog 128 _ _ _ at o;refine Calls.mono o ?_;rintro e w' ⟨rfl,n,os,rfl⟩;refine ⟨rfl,?_,?_⟩
  ·obtain ⟨_,⟨e0,_⟩ | ⟨g',cap',cur,e0,J,E,K,hm,M,ht⟩⟩:=h.own
   ·cases e0
   ·injection e0 with e1 _ e3;injection e1 with e1;injection e1 with e1;subst e1;subst e3;have:=ownsRow_sortedI (n:=n) (os:=os) (w:=w) (ss:=l) (ts:=BZ l) d J E K hm M;unfold zY;rw [d];exact this
  ·exact Below.grown h.ext (grownBy_sortedI _) h.ext.size (fun k I=>by injection I with I;omega)
theorem compact_calls (h:Mk w1 w v l) (J:l.length<=1000000000000):Calls Tryz.prog 94 #[v] w fun e w'=>∃v',e=.returned v'/\Mk w1 w' v' (Lib.compact l):=by
 rcases En l.length with h0 | h0
 ·have D:=DV h0;subst D;obtain ⟨A,c,rfl,_⟩:=h.slice;have d:=AnyG.slices_Compact_int_empty compactA A c w;change Calls Tryz.prog 94 _ _ _ at d;refine Calls.mono d ?_;rintro e w' ⟨rfl,rfl⟩;exact ⟨_,rfl,h⟩
 ·obtain ⟨g,cap,rfl,G,I⟩:=World.ownsRow.form h.own h0;have o:=Bq h.own;have d:=AnyG.slices_Compact_int compactA g 0 cap l w (holds_own h.own) (by omega) o;change Calls Tryz.prog 94 _ _ _ at d;refine Calls.mono d ?_;rintro e w' ⟨rfl,q,rfl⟩
  have E:(Lib.compact l).length<=l.length:=by
   unfold Lib.compact Lib.compactUpTo;rw [Em];exact DG (Eg _ _) (by simp)
  refine ⟨_,rfl,?_,?_⟩
  ·have:=Lib.ownsRow_putRow (enc:=Value.int .i64) (q:=q) (k:=(Lib.compact l).length) (ys:=Lib.compact l++List.replicate (l.length - (Lib.compact l).length) 0) h.own (by simp;omega) E;rw [List.take_left'] at this
   ·exact this
   ·rfl
  ·exact Lib.below_putRow h.ext G
theorem values_calls (A:Option Addr) (n c:Nat) (w:World):Calls Tryz.prog 96 #[.slice A n c] w fun e w'=>e=.returned (.func (.func 129) #[] #[.pointer (some ⟨w.heap.size,0,none⟩)])/\w'=w.alloc (.cells #[.slice A n c] 39):=by
 go_enter Tryz.func96,Tryz.ntmps96
 go_wp2_with fail
 go_ret;exact ⟨rfl,rfl⟩
theorem collect_calls (Bs:Nat) (w:World) (D:w.cell? ⟨Bs,0,none⟩=some v) (h:zl w ok v l) (d:l.length<=1000000000000):
  Calls Tryz.prog 127 #[.func (.func 129) #[] #[.pointer (some ⟨Bs,0,none⟩)]] w fun e w'=>∃v',e=.returned v'/\Mk w w' v' l:=by
 have H:=zh (appendSeq_calls Bs w D h d);clear h D
 go_enter Tryz.func127,Tryz.ntmps127
 go_wp2_with fail
 refine H.out.mono ?_;rintro e w' ⟨v',rfl,o⟩;have E:=zh o;clear o
 go_wp2_with fail
 go_ret;exact ⟨_,rfl,E.out⟩
theorem sorted_calls (Bs:Nat) (w:World) (E:w.cell? ⟨Bs,0,none⟩=some v) (h:zl w ok v l) (d:l.length<=1000000000000):
  Calls Tryz.prog 95 #[.func (.func 129) #[] #[.pointer (some ⟨Bs,0,none⟩)]] w fun e w'=>∃v',e=.returned v'/\Mk w w' v' (BZ l):=by
 have H:=zh (collect_calls Bs w E h d);clear h E
 go_enter Tryz.func95,Tryz.ntmps95
 go_wp2_with fail
 refine H.out.mono ?_;rintro e w' ⟨v',rfl,D⟩;have I:=zh (sort_calls D d);clear D
 go_wp2_with fail
 refine I.out.mono ?_;rintro e w2 ⟨rfl,o⟩;have G:=zh o;clear o
 go_wp2_with fail
 go_ret;exact ⟨_,rfl,G.out⟩
end
section
open Go.RowKit
open Go.ChangeMaps (setBlock)
def IterIs (w:World) (r g since:Nat) (seen:Array Nat) (c0:Nat):Prop:=w.heap[r]?=some (.mapIter (some g) since seen c0)
theorem run_next_at (w:World) (ty:TypeId) (bm r since c0:Nat) (seen:Array Nat) (es:Array MapEntry) (clock:Nat) (K:IterIs w r bm since seen c0) (Q:w.heap[bm]?=some (.map es clock)) (o:∀x∈es.toList,x.born<since) (O:since<=c0):
  ((leftOf es seen).size=0/\(Instr.next (.pointer (some ⟨r,0,none⟩)) false ty).run P w=.ok (.tuple #[.bool false]) w)\/
  ∃e∈(leftOf es seen).toList,∃w1:World,(w1=w\/w1=w.drew)/\(Instr.next (.pointer (some ⟨r,0,none⟩)) false ty).run P w=.ok (.tuple #[.bool true,e.key,e.val]) (setBlock w1 r (.mapIter (some bm) since (seen.push e.born) clock)):=by
 unfold IterIs at K;simp only [Instr.next,getObj,Sem.run_bind,Sem.run,K,Q,Result.andThen,next_test_false seen es since c0 o O,Bool.false_eq_true,if_false];unfold leftOf;have d:∀x∈(Array.filter (fun e=>!seen.contains e.born) es).toList,x.born<since:=fun x D=>o x (by simp at D⊢;exact D.1)
 generalize Array.filter (fun e=>!seen.contains e.born) es=L at d⊢;have e1:L.filter (fun x=>decide (x.born<since))=L:=Array.filter_eq_self.2 (fun x D=>by simpa using d x (by simpa using D))
 have e2:L.filter (fun x=>decide (x.born≥since))=#[]:=by
  rw [Array.filter_eq_empty_iff];intro x D;have:=d x (by simpa using D);simp;omega
 simp only [e1,e2,Array.append_empty];by_cases h0:L.size=0
 ·left
  have:L=#[]:=Array.eq_empty_of_size_eq_zero h0;subst this;refine ⟨rfl,?_⟩;simp [choose,Sem.run,Question.forced]
 ·right
  have J:L.isEmpty=false:=by simp [Array.isEmpty,h0]
  simp only [J,Bool.false_eq_true,if_false,Array.empty_append,Array.size_map]
  have I:∃(j:Nat) (w1:World),j<L.size/\(w1=w\/w1=w.drew)/\(choose (Question.mapNext L.size)).run P w=.ok j w1:=by
   by_cases hf:L.size<=1
   ·exact ⟨0,w,by omega,.inl rfl,by simp [choose,Sem.run,Question.forced,hf]⟩
   ·exact ⟨_,w.drew,Nat.mod_lt _ (by omega),.inr rfl,by
     simp only [choose,Sem.run,Question.forced,DO,hf,if_false,Question.cut];rfl⟩
  obtain ⟨j,w1,U,E,G⟩:=I;refine ⟨L[j],by simp,w1,E,?_⟩
  have M:w1.heap[r]?=some (.mapIter (some bm) since seen c0):=by
   rcases E with rfl | rfl <;> exact K
  have hset:∀(o':Obj),(setObj r o').run P w1=.ok () (setBlock w1 r o'):=fun o'=>by
   simp only [setObj,Sem.run,M];rfl
  simp only [G,Array.getElem?_map,Array.getElem?_eq_getElem U,Option.map_some,Sem.run_bind,hset,Result.andThen];rfl
theorem run_entry_at (w:World) (bm r since:Nat) (seen:Array Nat) (es:Array MapEntry) (clock:Nat) (e:MapEntry) (D:w.heap[r]?=some (.mapIter (some bm) since (seen.push e.born) clock)) (d:w.heap[bm]?=some (.map es clock)) (he:e∈es.toList) (o:(es.toList.map (·.born)).Nodup):
  (Instr.entry (.pointer (some ⟨r,0,none⟩))).run P w=.ok (.tuple #[e.key,e.val]) w:=by
 have hf:es.find? (·.born==e.born)=some e:=by rw [<-Array.find?_toList];exact find_born e es.toList o he
 simp only [Instr.entry,getObj,Sem.run_bind,Sem.run,D,d,Result.andThen,Array.back?_push,bne_self_eq_false,Bool.false_eq_true,if_false,hf];rfl
theorem Da:∀(l:List Int) (b:Nat),(zx l b).map (·.born)=List.range' b l.length
 | [],_=>rfl
 | _ :: l,b=>by simp [zx,Da l (b+1),List.range'_succ]
theorem setBlock_same (o:Obj) (h:g<w.heap.size):(setBlock w g o).heap[g]?=some o:=by simp [setBlock,h]
def leftN (n:Nat) (seen:Array Nat):Nat:=((List.range n).filter fun i=>!seen.contains i).length
theorem leftN_step {i:Nat} (o:i<n) (D:seen.contains i=false):leftN n (seen.push i)<leftN n seen:=by
 unfold leftN;refine filter_lt (fun j=>!seen.contains j) (fun j=>!(seen.push i).contains j) (fun x d=>?_) i (by simp only [D];rfl) (by simp) _ (EB.2 o);simp at d⊢;exact d.1
theorem set_next {r c0:Nat} (O:zC w g l) (K:IterIs w r g l.length seen c0) (hc:l.length<=c0):
  ((∀i,i<l.length->seen.contains i=true)/\∀ty,(Instr.next (.pointer (some ⟨r,0,none⟩)) false ty).run P w=.ok (.tuple #[.bool false]) w)\/
  ∃i,∃(h:i<l.length),seen.contains i=false/\∃w1:World,(w1=w\/w1=w.drew)/\(∀ty,(Instr.next (.pointer (some ⟨r,0,none⟩)) false ty).run P w=.ok (.tuple #[.bool true,.int .i64 l[i],.bool true]) (setBlock w1 r (.mapIter (some g) l.length (seen.push i) l.length)))/\
   ((Instr.entry (.pointer (some ⟨r,0,none⟩))).run P (setBlock w1 r (.mapIter (some g) l.length (seen.push i) l.length))=.ok (.tuple #[.int .i64 l[i],.bool true]) (setBlock w1 r (.mapIter (some g) l.length (seen.push i) l.length))):=by
 have E:∀x∈(zx l 0).toArray.toList,x.born<l.length:=by
  intro x hx;have h1:x.born∈(zx l 0).map (·.born):=EA.2 ⟨x,by simpa using hx,rfl⟩;rw [Da] at h1;have:=List.mem_range'_1.1 h1;omega
 have J:∀x∈(zx l 0),∃(h:x.born<l.length),x.key=.int .i64 (l[x.born])/\x.val=.bool true:=by
  intro x hx;obtain ⟨k,d,rfl⟩:=Ej hx;have h1:=BW l 0 k;rw [DC d] at h1;rw [Cu] at d;rw [DC d] at h1;simp only [Option.map_some,Option.some.injEq,Nat.zero_add] at h1;rw [h1];exact ⟨d,rfl,rfl⟩
 have U:g≠r:=by
  rintro rfl;unfold IterIs at K;unfold zC mapObj at O;rw [O] at K;cases K
 have a1:r<w.heap.size:=za K;have o:∀ty,_:=fun ty=>run_next_at (P:=P) w ty g r l.length c0 seen (zx l 0).toArray l.length K O E hc
 by_cases hz:(leftOf (zx l 0).toArray seen).size=0
 ·refine .inl ⟨fun i M=>?_,fun ty=>?_⟩
  ·cases Q:seen.contains i with
   | true=>rfl
   | false=>
    exfalso
    have d:i<(zx l 0).length:=by rw [Cu];exact M
    have hb:(zx l 0)[i].born=i:=by
     have h1:=BW l 0 i;rw [DC d,DC M] at h1;simp only [Option.map_some,Option.some.injEq,Nat.zero_add] at h1;rw [h1]
    have hm:(zx l 0)[i]∈(leftOf (zx l 0).toArray seen):=by
     unfold leftOf;rw [Array.mem_filter];exact ⟨by simp,by rw [hb,Q];rfl⟩
    rw [Array.eq_empty_of_size_eq_zero hz] at hm;simp at hm
  ·rcases o ty with ⟨_,h⟩ | ⟨e,he,_⟩
   ·exact h
   ·rw [Array.eq_empty_of_size_eq_zero hz] at he;simp at he
 ·rcases o 0 with ⟨h0,_⟩ | ⟨e,he,w1,G,D⟩
  ·exact absurd h0 hz
  ·have I:e∈zx l 0:=by
    have:=(mem_left he).1;simpa using this
   obtain ⟨V,d,Q⟩:=J e I
   have a0:seen.contains e.born=false:=by
    have h1:e∈(zx l 0).toArray.filter (fun e=>!seen.contains e.born):=by simpa [leftOf] using he
    rw [Array.mem_filter] at h1;simpa using h1.2
   rw [d,Q] at D;refine .inr ⟨e.born,V,a0,w1,G,fun ty=>D,?_⟩;have h1:w1.heap=w.heap:=by rcases G with rfl | rfl <;> rfl
   have a2:r<w1.heap.size:=by rw [h1];exact a1
   have:=run_entry_at (P:=P) (setBlock w1 r (.mapIter (some g) l.length (seen.push e.born) l.length)) g r l.length seen (zx l 0).toArray l.length e (setBlock_same _ a2) (by rw [Df _ U,h1];exact O) (by simpa using I) (by
    show ((zx l 0).map (·.born)).Nodup;rw [Da];exact List.nodup_range')
   rw [d,Q] at this;exact this
end
end Go.Proofs.YtfjjdmpndmbfoaaGreatDoor
