import Derived.Test.YtjomnbdjajjgfaaGreatDoorWJc
import Derived.Shelf.SlGeneric
import Derived.Shelf.SortM.Plain
import Derived.Shelf.SortM.SortNone
import Derived.Shelf.SlicesG.CompactI
import Derived.Shelf.SlicesE.DeleteFunc
import Derived.Ground.SlgmProg
import Derived.Ground.SlgnProg
import Derived.Test.YtjomnbdjajjgfaaGreatDoorRows
import Derived.Lib.OwnBridge
import Derived.Sort.OwnSortedInts
import Derived.Laws.IdiomRangeMap
import Derived.Deep.LoopGhost
import Derived.Deep.DeepCutAuto
set_option linter.unusedVariables false
set_option linter.unusedSimpArgs false
set_option maxRecDepth 100000
set_option maxHeartbeats 16000000
namespace Go.Proofs.YtjomnbdjajjgfaaGreatDoor
variable {seen:Array Nat} {cs:Array Value} {b:Bool} {ps:List (List Int)} {l:List Int} {vs xs:List Value} {c c0 g g1 g2 gu i r since:Nat} {ok ok2:Nat->Prop} {o:Obj} {P:Program} {ts vc vp x:Value} {w1:World}
section
open Go.RowKit
def GivesB {α:Type} (n:Nat) (P:Program) (g:Nat) (lb:Array Value) (encs:α->Array Value) (G:Nat->α->World->Prop) (N:Nat) (w:World):Prop:=
 ∀(l:Nat) (J:Nat->World->Prop) (Jx:World->Prop) (W:World),za w W->w.heap.size<=l->l<W.heap.size->(∀k A B,J k A->Below W.heap.size A B->J k B)->(∀A B,Jx A->Below W.heap.size A B->Jx B)->
  (∀k x W1,k<N->J k W1->G k x W1->YieldAt Fence.wide (n - 1) P l (encs x) W1 fun e W'=>(e=.returned (.bool true)/\J (k+1) W'/\W1.grownBy W' (some l))\/(e=.returned (.bool false)/\Jx W'))->
  J 0 W->
  CallsIn Fence.wide n P g (#[.func (.yield l) #[] #[]]++lb) W fun e W'=>(∃v,e=.returned v)/\(J N W'\/Jx W')
def postB (B k:Nat) (I:Nat->World->Prop) (Ix:Code->World->Prop) (W:World):Exit->Act->World->Prop
 | .normal,_,W'=>za W W'/\I (k+1) W'
 | .ret,_,W'=>(∀b,B<=b->b<W.heap.size->W'.heap[b]?=W.heap[b]?)/\Ix .ret W'
 | .exit id,_,W'=>(∀b,B<=b->b<W.heap.size->W'.heap[b]?=W.heap[b]?)/\Ix (.exit id) W'
 | .goto t,_,W'=>(∀b,B<=b->b<W.heap.size->W'.heap[b]?=W.heap[b]?)/\Ix (.goto t) W'
 | .panic _,_,_=>False
 | .outgrown,_,_=>False
theorem BR {B l:Nat} {W:World} (o:Obj) (h:B<=l) (D:l<W.heap.size):Below B W (W.putObj l o):=
 (Below.refl B W).grown (grownBy_putObj' W l o) (by omega) (fun k e=>by cases e;exact h)
theorem wpIn_loopB {n:Nat} {α:Type} {g:Operand} {ps:Array Tmp} {assign body:Code} {Q:Exit->Act->World->Prop} {a:Act} {w:World}
  {gf:Nat} {lb:Array Value} (hg:a.eval g=.func (.func gf) #[] lb) (eg:∀args w,(callFunc gf args).run P w=.ok (.enter gf args) w)
  {encs:α->Array Value} {G:Nat->α->World->Prop} {N:Nat} {w0:World} (b5:GivesB (n - 1) P gf lb encs G N w0) (b4:za w0 w) (c7:∀x,(encs x).size=ps.size)
  (I:Nat->World->Prop) (Ix:Code->World->Prop) (hI:∀k A B,I k A->Below w.heap.size A B->I k B) (hIx:∀c A B,Ix c A->Below w.heap.size A B->Ix c B)
  (hG:∀k x A l,G k x A->w.heap.size<l->l<A.heap.size->(∃r,A.heap[l]?=some (.loop r))->∀o,G k x (A.putObj l o)) (h0:I 0 w) (a₁:α->Act)
  (hassign:∀(l:Nat) (x:α) (W:World) (K:Act->World->Prop),K (a₁ x) W->
   assign.wpIn (Fence.wide.inRound l) (n - 1 - 1) P (Exit.then K (fun _ _ _=>False)) { tmps:=(ps.zip (encs x)).foldl (fun t (p,v)=>t.setIfInBounds p v) a.tmps,defers:=[] } W)
  (hbody:∀(l k:Nat) (x:α) (W:World),k<N->I k W->G k x W->w.heap.size<W.heap.size->body.wpIn (Fence.wide.inRound l) (n - 1 - 1) P (postB w.heap.size k I Ix W) (a₁ x) W)
  (hdone:∀(D:Nat) (W:World),w.heap.size<=D->I N W->W.heap[D]?=some (.deferred (some []))->Q .normal { a with defers:={ target:=.collected D,args:=#[] } :: a.defers } W)
  (b0:∀(D:Nat) (c:Code) (W:World),w.heap.size<=D->Ix c W->W.heap[D]?=some (.deferred (some []))->c.wpIn Fence.wide n P Q { a with defers:={ target:=.collected D,args:=#[] } :: a.defers } W):
  (Code.rangeFunc g ps assign body).wpIn Fence.wide n P Q a w:=by
 refine wpIn_rangeFunc ?_;intro fn hfn;obtain ⟨rec,J⟩:∃rec:LoopState->Option Code->Loop,rec=fun st pe=>{ state:=st,pending:=pe,fn,tmps:=a.tmps,params:=ps,assign,body,defers:=w.heap.size }:=⟨_,rfl⟩
 obtain ⟨W1,a5⟩:∃W1,(w.alloc (.deferred (some []))).alloc (.loop (rec .ready none))=W1:=⟨_,rfl⟩;have d5:W1.heap.size=w.heap.size+2:=by rw [<-a5];simp
 have b7:W1.heap[w.heap.size+1]?=some (.loop (rec .ready none)):=by
  rw [<-a5];have:=World.alloc_heap_new (w.alloc (.deferred (some []))) (.loop (rec .ready none))
  rwa [World.size_alloc] at this
 have b6:W1.heap[w.heap.size]?=some (.deferred (some [])):=by
  rw [<-a5];exact (zad _ _ _ (by simp)).trans (World.alloc_heap_new w _)
 have b3:za w W1:=by rw [<-a5];exact ((za.refl w).alloc _).alloc _
 refine ⟨w.heap.size+1,[{ target:=.collected w.heap.size,args:=#[] }],W1,{ target:=.fn (.func gf) lb,args:=#[.func (.yield (w.heap.size+1)) #[] #[]] },W1,gf,
  #[.func (.yield (w.heap.size+1)) #[] #[]]++lb,W1,?_,?_,fun _ _=>trivial,?_,fun h=>absurd h (by simp [Fence.wide]),?_⟩
 ·rw [<-a5,J];exact run_enterLoop_outer _ _ _ _ _
 ·simp only [resolve,hg];simp [go_sem]
 ·simp [invoke,go_sem,eg]
 ·refine (b5 (w.heap.size+1)
   (fun k W=>I k W/\W.heap[w.heap.size+1]?=some (.loop (rec .ready none))/\W.heap[w.heap.size]?=some (.deferred (some []))/\w.heap.size+1<W.heap.size)
   (fun W=>∃c,Ix c W/\W.heap[w.heap.size+1]?=some (.loop (rec .done (some c)))/\W.heap[w.heap.size]?=some (.deferred (some [])))
   W1 (b4.trans b3) (by have:=b4.size;omega) (by omega) ?_ ?_ ?_ ⟨hI _ _ _ h0 b3,b7,b6,by omega⟩).mono ?_
  ·rintro k A B ⟨h1,h2,h3,h4⟩ O;exact ⟨hI _ _ _ h1 (O.mono (by omega)),(O.block _ (by omega)).trans h2,(O.block _ (by omega)).trans h3,zam h4 O.size⟩
  ·rintro A B ⟨c,h1,h2,h3⟩ O;exact ⟨c,hIx _ _ _ h1 (O.mono (by omega)),(O.block _ (by omega)).trans h2,(O.block _ (by omega)).trans h3⟩
  ·-- one round
   rintro k x W c6 ⟨hi,hl,hD,a4⟩ b9;have hy:=run_yield (P:=P) (args:=encs x) hl (by rw [J];exact c7 x);rw [J] at hy;refine ⟨fn,_,assign,body,hy,roundIn_of_wpIn hfn (hassign _ x W _ ⟨_,run_beginRound hl (by rw [J]),?_⟩)⟩;have a6:(W.putObj (w.heap.size+1) (.loop { rec .ready none with state:=.busy })).heap[w.heap.size+1]?=some (.loop { rec .ready none with state:=.busy }):=World.putObj_heap_same a4;have a7:(W.putObj (w.heap.size+1) (.loop { rec .ready none with state:=.busy })).heap[w.heap.size]?=some (.deferred (some [])):=(World.putObj_heap_other (by omega)).trans hD;have V:w.heap.size+1<(W.putObj (w.heap.size+1) (.loop { rec .ready none with state:=.busy })).heap.size:=(za7.1 a6).1;have b8:W.grownBy (W.putObj (w.heap.size+1) (.loop { rec .ready none with state:=.busy })) (some (w.heap.size+1)):=grownBy_putObj' _ _ _;refine wpIn_mono (hbody _ k x _ c6 (hI _ _ _ hi (BR _ (by omega) a4)) (hG _ _ _ _ b9 (by omega) a4 ⟨_,hl⟩ _) (Nat.lt_trans (Nat.lt_succ_self _) V)) ?_;generalize W.putObj (w.heap.size+1) (.loop { rec .ready none with state:=.busy })=W2 at*
   have fin:∀(jump:Option Code) (W3:World),W3.heap[w.heap.size+1]?=some (.loop { rec .ready none with state:=.busy })->
     (Instr.endRound (w.heap.size+1) jump).run P W3=.ok (.bool jump.isNone) (W3.putObj (w.heap.size+1) (.loop (rec (if jump.isNone then .ready else .done) jump))):=fun jump W3 M=>by
    have:=run_endRound (P:=P) jump M;rw [J] at this⊢;exact this
   rintro e a3 W3 hp
   cases e with
   | normal=>
    obtain ⟨a1,a2⟩:=hp;have M:=(a1.block _ V).trans a6;have E:=(za7.1 M).1;have a0:=(a1.block _ (by omega)).trans a7;refine ⟨_,_,fin none W3 M,.inl ⟨rfl,⟨hI _ _ _ a2 (BR _ (by omega) E),World.putObj_heap_same E,(World.putObj_heap_other (by omega)).trans a0,?_⟩,?_⟩⟩
    ·exact (za7.1 (World.putObj_heap_same E)).1
    ·exact (b8.trans ⟨a1.os,a1.tape,a1.output,a1.size,fun i hi _=>a1.block i hi⟩).trans (grownBy_putObj' _ _ _)
   | ret=>
    obtain ⟨U,a2⟩:=hp;have M:=(U _ (by omega) V).trans a6;have E:=(za7.1 M).1;have a0:=(U _ (Fy _) (by omega)).trans a7;exact ⟨_,_,fin (some .ret) W3 M,.inr ⟨rfl,.ret,hIx _ _ _ a2 (BR _ (by omega) E),World.putObj_heap_same E,(World.putObj_heap_other (by omega)).trans a0⟩⟩
   | exit id=>
    obtain ⟨U,a2⟩:=hp;have M:=(U _ (by omega) V).trans a6;have E:=(za7.1 M).1;have a0:=(U _ (Fy _) (by omega)).trans a7;exact ⟨_,_,fin (some (.exit id)) W3 M,.inr ⟨rfl,.exit id,hIx _ _ _ a2 (BR _ (by omega) E),World.putObj_heap_same E,(World.putObj_heap_other (by omega)).trans a0⟩⟩
   | goto t=>
    obtain ⟨U,a2⟩:=hp;have M:=(U _ (by omega) V).trans a6;have E:=(za7.1 M).1;have a0:=(U _ (Fy _) (by omega)).trans a7;exact ⟨_,_,fin (some (.goto t)) W3 M,.inr ⟨rfl,.goto t,hIx _ _ _ a2 (BR _ (by omega) E),World.putObj_heap_same E,(World.putObj_heap_other (by omega)).trans a0⟩⟩
   | panic ch=>exact hp.elim
   | outgrown=>exact hp.elim
  ·-- behind the iterator
   rintro e W2 ⟨⟨v,rfl⟩,(⟨hi,hl,hD,a4⟩ | ⟨c,hi,hl,hD⟩)⟩
   ·exact ⟨none,_,by have:=run_endLoop (P:=P) hl (by rw [J];simp);rw [J] at this;exact this,hdone _ _ (Fy _) (hI _ _ _ hi (BR _ (by omega) a4)) ((World.putObj_heap_other (by omega)).trans hD)⟩
   ·have a4:=(za7.1 hl).1;exact ⟨some c,_,by have:=run_endLoop (P:=P) hl (by rw [J];simp);rw [J] at this;exact this,b0 _ c _ (Fy _) (hIx _ _ _ hi (BR _ (by omega) a4)) ((World.putObj_heap_other (by omega)).trans hD)⟩
end
section
open Go.RowKit
attribute [local go_sem ↓] Go.wp_at_zero Go.wp_at_succ
theorem BN.freeCell {w:World} {t:Nat} {m:MZ} {ch us:List Int} {f u:Value} (h:BN w ok g m ch ps us f u ts vc vp gu) (hfn:∀f∈m.free,(f.length:Int)=m.n) (ht:t<m.free.length) {n:Int} (h0:0<=n) (h1:n<m.n):
  ∃b off c b' off' l c',f=.slice (some ⟨b,off,none⟩) m.free.length c/\w.cell? ⟨b,off+t,none⟩=some (.slice (some ⟨b',off',none⟩) l c')/\n<(l:Int)/\l<=c'/\m.free.length<=c/\w.cell? ⟨b',off'+n.toNat,none⟩=some (.bool (zj m t n)):=by
 obtain ⟨fr',up',ts',he,E,_,_⟩:=h.maze;injection he with he;injection he with he;simp only [List.cons.injEq,and_true,true_and] at he;obtain ⟨rfl,rfl,rfl⟩:=he;obtain ⟨vsf,⟨Af,cf,rfl,O,a0⟩,Q⟩:=E;obtain ⟨bf,off3,uf,rfl,_,I,J⟩:=AW a0 Q ht ht;have U:=hfn _ (Fz ht);obtain ⟨A4,c4,rfl,M,V⟩:=J;have G:n.toNat<(m.free[t]).length:=by omega
 obtain ⟨b4,off4,rfl,_,D⟩:=BS V G G;have E:(m.free[t])[n.toNat]=zj m t n:=by simp [zj,ht,G]
 rw [E] at D;exact ⟨bf,off3,cf,b4,off4,_,c4,rfl,I,by omega,M,O,D⟩
theorem cand1_calls {m:MZ} {ch us:List Int} {f u:Value} (t:Nat) (n:Int) (w:World) (h:BN w ok g m ch ps us f u ts vc vp gu) (hfn:∀f∈m.free,(f.length:Int)=m.n) (ht:t<m.free.length)
  (U:w.cell? ⟨g1,0,none⟩=some (.pointer (some ⟨g,0,none⟩))) (V:w.cell? ⟨g2,0,none⟩=some (.int .i64 t)) (h0:0<=n) (h1:n<m.n):
  Calls Tryz.prog 200 #[.int .i64 n,.pointer (some ⟨g1,0,none⟩),.pointer (some ⟨g2,0,none⟩)] w fun e w'=>e=.returned (.bool (zj m t n && !decide (n∈us)))/\zT w w':=by
 obtain ⟨r0,r1,r2,r3,r4,r5,r6,r7,r8⟩:=h.rules;obtain ⟨b,off,c,b',off',l,c',rfl,Q,hl,a1,a0,G⟩:=h.freeCell hfn ht h0 h1;have J:=h.us;clear h hfn;have hx:=za.refl w;have a3:(t:Int)<(m.free.length:Int):=by omega
 have a2:(0:Int)<=(t:Int):=by omega
 obtain ⟨fb,I⟩:=zaI (zj m t n);rw [<-I] at G⊢;clear I h1;by_cases E:n∈us
 ·have O:=fun q=>look_t (J.below ((za.refl w).drewN q)) E
  have M:=zh E;clear E;have D:Hid ((fb && !decide (n∈us))=false):=by show _=false;rw [FB M.out];cases fb <;> rfl
  cases fb with
  | false=>
   go_enter Tryz.func200,Tryz.ntmps200
   go_wp2_with fail
   go_quiet (fail)
   go_wp2;go_ret;exact ⟨zm D.out.symm,(zT.refl w).more _⟩
  | true=>
   go_enter Tryz.func200,Tryz.ntmps200
   go_wp2_with fail
   go_quiet (fail)
   go_wp2;go_ret;exact ⟨zm D.out.symm,(zT.refl w).more _⟩
 ·have O:=fun q=>look_f (J.below ((za.refl w).drewN q)) E
  have M:=zh E;clear E;have D:Hid ((fb && !decide (n∈us))=fb):=by show _=fb;rw [FC M.out];cases fb <;> rfl
  cases fb with
  | false=>
   go_enter Tryz.func200,Tryz.ntmps200
   go_wp2_with fail
   go_quiet (fail)
   go_wp2;go_ret;exact ⟨zm D.out.symm,(zT.refl w).more _⟩
  | true=>
   go_enter Tryz.func200,Tryz.ntmps200
   go_wp2_with fail
   go_quiet (fail)
   go_wp2;go_ret;exact ⟨zm D.out.symm,(zT.refl w).more _⟩
theorem left11_calls {m:MZ} {ch us:List Int} {f u:Value} (t:Nat) (n:Int) (w:World) (h:BN w ok g m ch ps us f u ts vc vp gu) (hfn:∀f∈m.free,(f.length:Int)=m.n) (ht:t<m.free.length)
  (U:w.cell? ⟨g1,0,none⟩=some (.pointer (some ⟨g,0,none⟩))) (V:w.cell? ⟨g2,0,none⟩=some (.int .i64 t)) (h0:0<=n) (h1:n<m.n):
  Calls Tryz.prog 229 #[.int .i64 n,.pointer (some ⟨g1,0,none⟩),.pointer (some ⟨g2,0,none⟩)] w fun e w'=>e=.returned (.bool (!zj m t n || decide (n∈us)))/\zT w w':=by
 obtain ⟨r0,r1,r2,r3,r4,r5,r6,r7,r8⟩:=h.rules;obtain ⟨b,off,c,b',off',l,c',rfl,Q,hl,a1,a0,G⟩:=h.freeCell hfn ht h0 h1;have J:=h.us;clear h hfn;have hx:=za.refl w;have a3:(t:Int)<(m.free.length:Int):=by omega
 have a2:(0:Int)<=(t:Int):=by omega
 obtain ⟨fb,I⟩:=zaI (zj m t n);rw [<-I] at G⊢;clear I h1;by_cases E:n∈us
 ·have O:=fun q=>look_t (J.below ((za.refl w).drewN q)) E
  have M:=zh E;clear E;have D:Hid ((!fb || decide (n∈us))=true):=by show _=true;rw [FB M.out];cases fb <;> rfl
  cases fb with
  | false=>
   go_enter Tryz.func229,Tryz.ntmps229
   go_wp2_with fail
   go_quiet (fail)
   go_wp2;go_ret;exact ⟨zm D.out.symm,(zT.refl w).more _⟩
  | true=>
   go_enter Tryz.func229,Tryz.ntmps229
   go_wp2_with fail
   go_quiet (fail)
   go_wp2;go_ret;exact ⟨zm D.out.symm,(zT.refl w).more _⟩
 ·have O:=fun q=>look_f (J.below ((za.refl w).drewN q)) E
  have M:=zh E;clear E;have D:Hid ((!fb || decide (n∈us))=!fb):=by show _=!fb;rw [FC M.out];cases fb <;> rfl
  cases fb with
  | false=>
   go_enter Tryz.func229,Tryz.ntmps229
   go_wp2_with fail
   go_quiet (fail)
   go_wp2;go_ret;exact ⟨zm D.out.symm,(zT.refl w).more _⟩
  | true=>
   go_enter Tryz.func229,Tryz.ntmps229
   go_wp2_with fail
   go_quiet (fail)
   go_wp2;go_ret;exact ⟨zm D.out.symm,(zT.refl w).more _⟩
theorem open1_calls {gs g5:Nat} {s:List Int} (n:Int) (w:World) (D:zW w gs s) (G:w.cell? ⟨g5,0,none⟩=some (.map (some gs))):
  Calls Tryz.prog 207 #[.int .i64 n,.pointer (some ⟨g5,0,none⟩)] w fun e w'=>e=.returned (.bool (decide (n∈s)))/\w=w':=by
 by_cases h:n∈s
 ·have E:=look_t D h;rw [FB h];clear h D
  go_enter Tryz.func207,Tryz.ntmps207
  go_wp2;go_ret;exact ⟨rfl,rfl⟩
 ·have E:=look_f D h;rw [FC h];clear h D
  go_enter Tryz.func207,Tryz.ntmps207
  go_wp2;go_ret;exact ⟨rfl,rfl⟩
end
section
open Go.Shelf
def sortA_ren:Go.Shelf.Ren:=⟨fun | 5=>225 | 8=>240 | 7=>239 | 19=>258 | 20=>242 | 10=>249 | 11=>250 | 12=>251 | 13=>252 | 14=>253 | 15=>254 | 16=>255 | 17=>256 | 18=>257 | 30=>267 | 31=>268 | 32=>269 | 33=>270 | 34=>271 | 35=>272 | 40=>279 | n=>n,fun | 23=>23 | 25=>3 | 3=>3 | 32=>226 | 22=>23 | 0=>0 | 44=>268 | 46=>252 | 4=>4 | 36=>273 | 35=>272 | 41=>152 | 5=>5 | 9=>9 | 53=>285 | 57=>289 | 63=>299 | 64=>300 | n=>n,fun | n=>n⟩
theorem sortA:Go.Proofs.SlLaysM.n5 Tryz.prog sortA_ren:=by
 constructor
 all_goals try first | kernel_rfl | (intro _;kernel_rfl)
 exact ⟨Tryz.f225.name,by decide,by kernel_rfl⟩;exact ⟨Tryz.f239.name,by decide,by kernel_rfl⟩;exact ⟨Tryz.f249.name,by decide,by kernel_rfl⟩;exact ⟨Tryz.f250.name,by decide,by kernel_rfl⟩;exact ⟨Tryz.f251.name,by decide,by kernel_rfl⟩;exact ⟨Tryz.f252.name,by decide,by kernel_rfl⟩;exact ⟨Tryz.f253.name,by decide,by kernel_rfl⟩;exact ⟨Tryz.f254.name,by decide,by kernel_rfl⟩;exact ⟨Tryz.f255.name,by decide,by kernel_rfl⟩;exact ⟨Tryz.f256.name,by decide,by kernel_rfl⟩;exact ⟨Tryz.f257.name,by decide,by kernel_rfl⟩;exact ⟨Tryz.f267.name,by decide,by kernel_rfl⟩;exact ⟨Tryz.f270.name,by decide,by kernel_rfl⟩;exact ⟨Tryz.f271.name,by decide,by kernel_rfl⟩;exact ⟨Tryz.f272.name,by decide,by kernel_rfl⟩;exact ⟨Tryz.f279.name,by decide,by kernel_rfl⟩
def compactA_ren:Go.Shelf.Ren:=⟨fun | 43=>201 | n=>n,fun | 22=>23 | 23=>3 | 3=>3 | 4=>4 | 0=>0 | n=>n,fun | n=>n⟩
theorem compactA:Go.Proofs.SlLaysN.n43 Tryz.prog compactA_ren:=by
 constructor
 all_goals try first | kernel_rfl | (intro _;kernel_rfl)
 exact ⟨Tryz.f201.name,by decide,by kernel_rfl⟩
def dfIA_ren:Go.Shelf.Ren:=⟨fun | 10=>228 | 6=>182 | n=>n,fun | 22=>23 | 23=>3 | 25=>141 | 3=>3 | 4=>4 | 0=>0 | n=>n,fun | n=>n⟩
theorem dfIA:Go.Proofs.SlLaysH.n10 Tryz.prog dfIA_ren:=by
 constructor
 all_goals try first | kernel_rfl | (intro _;kernel_rfl)
 exact ⟨Tryz.f182.name,by decide,by kernel_rfl⟩;exact ⟨Tryz.f228.name,by decide,by kernel_rfl⟩
end
section
open Go.RowKit Go.Sort Go.Shelf
theorem holds_own {w:World} {B cap:Nat} (h:zQ w B (.slice (some ⟨g,0,none⟩) l.length cap) l):Holds (Value.int .i64) w g 0 l.toArray:=by
 intro j E;have D:j<l.length:=by simpa using E
 refine ⟨?_,by have:=World.ownsRow.frozenAt h j;simpa using this⟩;have:=World.ownsRow.cellAt h j (by omega);rw [Nat.zero_add,this];simp [getElem!_pos,D]
def BL (l:List Int):List Int:=l.mergeSort fun x y=>decide (x<=y)
theorem sort_calls {w:World} {v:Value} (h:Mk w1 w v l) (hl:l.length<=1000000000000):Calls Tryz.prog 225 #[v] w fun e w'=>e=.returned (.tuple #[])/\Mk w1 w' v (BL l):=by
 have D:(BL l).length=l.length:=by unfold BL;rw [List.length_mergeSort]
 rcases zav l.length with h0 | h0
 ·have G:=zac h0;subst G;obtain ⟨A,c,rfl,_⟩:=h.slice;have E:=AnyM.slices_Sort_int_none sortA A c w;change Calls Tryz.prog 225 _ _ _ at E;refine Calls.mono E ?_;rintro e w' ⟨rfl,rfl⟩;exact ⟨rfl,h.cast (by simp [BL])⟩
 ·obtain ⟨g,cap,rfl,V,J⟩:=World.ownsRow.form h.own h0;have E:=AnyM.slices_Sort_int sortA g 0 cap l w (holds_own h.own) J (by omega);change Calls Tryz.prog 225 _ _ _ at E;refine Calls.mono E ?_;rintro e w' ⟨rfl,n,os,rfl⟩;refine ⟨rfl,?_,?_⟩
  ·obtain ⟨_,⟨e0,_⟩ | ⟨g',cap',cur,e0,O,I,Q,hm,U,ht⟩⟩:=h.own
   ·cases e0
   ·injection e0 with e1 _ e3;injection e1 with e1;injection e1 with e1;subst e1;subst e3;have:=ownsRow_sortedI (n:=n) (os:=os) (w:=w) (ss:=l) (ts:=BL l) D O I Q hm U;unfold zQ;rw [D];exact this
  ·exact Below.grown h.ext (grownBy_sortedI _) h.ext.size (fun k M=>by injection M with M;omega)
theorem compact_calls {w:World} {v:Value} (h:Mk w1 w v l) (O:l.length<=1000000000000):Calls Tryz.prog 201 #[v] w fun e w'=>∃v',e=.returned v'/\Mk w1 w' v' (Lib.compact l):=by
 rcases zav l.length with h0 | h0
 ·have G:=zac h0;subst G;obtain ⟨A,c,rfl,_⟩:=h.slice;have D:=AnyG.slices_Compact_int_empty compactA A c w;change Calls Tryz.prog 201 _ _ _ at D;refine Calls.mono D ?_;rintro e w' ⟨rfl,rfl⟩;exact ⟨_,rfl,h⟩
 ·obtain ⟨g,cap,rfl,J,M⟩:=World.ownsRow.form h.own h0;have E:=Bq h.own;have D:=AnyG.slices_Compact_int compactA g 0 cap l w (holds_own h.own) (by omega) E;change Calls Tryz.prog 201 _ _ _ at D;refine Calls.mono D ?_;rintro e w' ⟨rfl,q,rfl⟩
  have I:(Lib.compact l).length<=l.length:=by
   unfold Lib.compact Lib.compactUpTo;rw [zau];exact FA (zan _ _) (by simp)
  refine ⟨_,rfl,?_,?_⟩
  ·have:=Lib.ownsRow_putRow (enc:=Value.int .i64) (q:=q) (k:=(Lib.compact l).length) (ys:=Lib.compact l++List.replicate (l.length - (Lib.compact l).length) 0) h.own (by simp;omega) I;rw [List.take_left'] at this
   ·exact this
   ·rfl
  ·exact Lib.below_putRow h.ext J
theorem values_calls (A:Option Addr) (n c:Nat) (w:World):Calls Tryz.prog 203 #[.slice A n c] w fun e w'=>e=.returned (.func (.func 226) #[] #[.pointer (some ⟨w.heap.size,0,none⟩)])/\w'=w.alloc (.cells #[.slice A n c] 23):=by
 go_enter Tryz.func203,Tryz.ntmps203
 go_wp2_with fail
 go_ret;exact ⟨rfl,rfl⟩
theorem collect_calls {v:Value} (Bs:Nat) (w:World) (G:w.cell? ⟨Bs,0,none⟩=some v) (h:zg w ok v l) (D:l.length<=1000000000000):
  Calls Tryz.prog 224 #[.func (.func 226) #[] #[.pointer (some ⟨Bs,0,none⟩)]] w fun e w'=>∃v',e=.returned v'/\Mk w w' v' l:=by
 have H:=zh (appendSeq_calls Bs w G h D);clear h G
 go_enter Tryz.func224,Tryz.ntmps224
 go_wp2_with fail
 refine H.out.mono ?_;rintro e w' ⟨v',rfl,E⟩;have I:=zh E;clear E
 go_wp2_with fail
 go_ret;exact ⟨_,rfl,I.out⟩
theorem sorted_calls {v:Value} (Bs:Nat) (w:World) (I:w.cell? ⟨Bs,0,none⟩=some v) (h:zg w ok v l) (D:l.length<=1000000000000):
  Calls Tryz.prog 202 #[.func (.func 226) #[] #[.pointer (some ⟨Bs,0,none⟩)]] w fun e w'=>∃v',e=.returned v'/\Mk w w' v' (BL l):=by
 have H:=zh (collect_calls Bs w I h D);clear h I
 go_enter Tryz.func202,Tryz.ntmps202
 go_wp2_with fail
 refine H.out.mono ?_;rintro e w' ⟨v',rfl,G⟩;have M:=zh (sort_calls G D);clear G
 go_wp2_with fail
 refine M.out.mono ?_;rintro e w2 ⟨rfl,E⟩;have J:=zh E;clear E
 go_wp2_with fail
 go_ret;exact ⟨_,rfl,J.out⟩
end
section
open Go.RowKit
open Go.ChangeMaps (setBlock)
def IterIs (w:World) (r g since:Nat) (seen:Array Nat) (c0:Nat):Prop:=w.heap[r]?=some (.mapIter (some g) since seen c0)
theorem run_next_at (w:World) (ty:TypeId) (bm r since c0:Nat) (seen:Array Nat) (es:Array MapEntry) (clock:Nat) (Q:IterIs w r bm since seen c0) (hb:w.heap[bm]?=some (.map es clock)) (E:∀x∈es.toList,x.born<since) (V:since<=c0):
  ((leftOf es seen).size=0/\(Instr.next (.pointer (some ⟨r,0,none⟩)) false ty).run P w=.ok (.tuple #[.bool false]) w)\/
  ∃e∈(leftOf es seen).toList,∃w1:World,(w1=w\/w1=w.drew)/\(Instr.next (.pointer (some ⟨r,0,none⟩)) false ty).run P w=.ok (.tuple #[.bool true,e.key,e.val]) (setBlock w1 r (.mapIter (some bm) since (seen.push e.born) clock)):=by
 unfold IterIs at Q;simp only [Instr.next,getObj,Sem.run_bind,Sem.run,Q,hb,Result.andThen,next_test_false seen es since c0 E V,Bool.false_eq_true,if_false];unfold leftOf;have D:∀x∈(Array.filter (fun e=>!seen.contains e.born) es).toList,x.born<since:=fun x G=>E x (by simp at G⊢;exact G.1)
 generalize Array.filter (fun e=>!seen.contains e.born) es=L at D⊢;have e1:L.filter (fun x=>decide (x.born<since))=L:=Array.filter_eq_self.2 (fun x G=>by simpa using D x (by simpa using G))
 have e2:L.filter (fun x=>decide (x.born≥since))=#[]:=by
  rw [Array.filter_eq_empty_iff];intro x G;have:=D x (by simpa using G);simp;omega
 simp only [e1,e2,Array.append_empty];by_cases h0:L.size=0
 ·left
  have:L=#[]:=Array.eq_empty_of_size_eq_zero h0;subst this;refine ⟨rfl,?_⟩;simp [choose,Sem.run,Question.forced]
 ·right
  have O:L.isEmpty=false:=by simp [Array.isEmpty,h0]
  simp only [O,Bool.false_eq_true,if_false,Array.empty_append,Array.size_map]
  have M:∃(j:Nat) (w1:World),j<L.size/\(w1=w\/w1=w.drew)/\(choose (Question.mapNext L.size)).run P w=.ok j w1:=by
   by_cases hf:L.size<=1
   ·exact ⟨0,w,by omega,.inl rfl,by simp [choose,Sem.run,Question.forced,hf]⟩
   ·exact ⟨_,w.drew,Nat.mod_lt _ (by omega),.inr rfl,by
     simp only [choose,Sem.run,Question.forced,FI,hf,if_false,Question.cut];rfl⟩
  obtain ⟨j,w1,hj,I,J⟩:=M;refine ⟨L[j],by simp,w1,I,?_⟩
  have U:w1.heap[r]?=some (.mapIter (some bm) since seen c0):=by
   rcases I with rfl | rfl <;> exact Q
  have hset:∀(o':Obj),(setObj r o').run P w1=.ok () (setBlock w1 r o'):=fun o'=>by
   simp only [setObj,Sem.run,U];rfl
  simp only [J,Array.getElem?_map,Array.getElem?_eq_getElem hj,Option.map_some,Sem.run_bind,hset,Result.andThen];rfl
theorem run_entry_at (w:World) (bm r since:Nat) (seen:Array Nat) (es:Array MapEntry) (clock:Nat) (e:MapEntry) (G:w.heap[r]?=some (.mapIter (some bm) since (seen.push e.born) clock)) (D:w.heap[bm]?=some (.map es clock)) (he:e∈es.toList) (E:(es.toList.map (·.born)).Nodup):
  (Instr.entry (.pointer (some ⟨r,0,none⟩))).run P w=.ok (.tuple #[e.key,e.val]) w:=by
 have hf:es.find? (·.born==e.born)=some e:=by rw [<-Array.find?_toList];exact find_born e es.toList E he
 simp only [Instr.entry,getObj,Sem.run_bind,Sem.run,G,D,Result.andThen,Array.back?_push,bne_self_eq_false,Bool.false_eq_true,if_false,hf];rfl
theorem EB:∀(l:List Int) (b:Nat),(zO l b).map (·.born)=List.range' b l.length
 | [],_=>rfl
 | _ :: l,b=>by simp [zO,EB l (b+1),List.range'_succ]
theorem setBlock_same {w:World} (o:Obj) (h:g<w.heap.size):(setBlock w g o).heap[g]?=some o:=by simp [setBlock,h]
def leftN (n:Nat) (seen:Array Nat):Nat:=((List.range n).filter fun i=>!seen.contains i).length
theorem leftN_step {n:Nat} (E:i<n) (G:seen.contains i=false):leftN n (seen.push i)<leftN n seen:=by
 unfold leftN;refine filter_lt (fun j=>!seen.contains j) (fun j=>!(seen.push i).contains j) (fun x D=>?_) i (by simp only [G];rfl) (by simp) _ (zaB.2 E);simp at D⊢;exact D.1
theorem set_next {w:World} (V:zW w g l) (Q:IterIs w r g l.length seen c0) (hc:l.length<=c0):
  ((∀i,i<l.length->seen.contains i=true)/\∀ty,(Instr.next (.pointer (some ⟨r,0,none⟩)) false ty).run P w=.ok (.tuple #[.bool false]) w)\/
  ∃i,∃(h:i<l.length),seen.contains i=false/\∃w1:World,(w1=w\/w1=w.drew)/\(∀ty,(Instr.next (.pointer (some ⟨r,0,none⟩)) false ty).run P w=.ok (.tuple #[.bool true,.int .i64 l[i],.bool true]) (setBlock w1 r (.mapIter (some g) l.length (seen.push i) l.length)))/\
   ((Instr.entry (.pointer (some ⟨r,0,none⟩))).run P (setBlock w1 r (.mapIter (some g) l.length (seen.push i) l.length))=.ok (.tuple #[.int .i64 l[i],.bool true]) (setBlock w1 r (.mapIter (some g) l.length (seen.push i) l.length))):=by
 have I:∀x∈(zO l 0).toArray.toList,x.born<l.length:=by
  intro x hx;have h1:x.born∈(zO l 0).map (·.born):=zaA.2 ⟨x,by simpa using hx,rfl⟩;rw [EB] at h1;have:=List.mem_range'_1.1 h1;omega
 have O:∀x∈(zO l 0),∃(h:x.born<l.length),x.key=.int .i64 (l[x.born])/\x.val=.bool true:=by
  intro x hx;obtain ⟨k,D,rfl⟩:=zaq hx;have h1:=Dw l 0 k;rw [Fw D] at h1;rw [DT] at D;rw [Fw D] at h1;simp only [Option.map_some,Option.some.injEq,Nat.zero_add] at h1;rw [h1];exact ⟨D,rfl,rfl⟩
 have a1:g≠r:=by
  rintro rfl;unfold IterIs at Q;unfold zW mapObj at V;rw [V] at Q;cases Q
 have a4:r<w.heap.size:=zd Q;have E:∀ty,_:=fun ty=>run_next_at (P:=P) w ty g r l.length c0 seen (zO l 0).toArray l.length Q V I hc
 by_cases hz:(leftOf (zO l 0).toArray seen).size=0
 ·refine .inl ⟨fun i U=>?_,fun ty=>?_⟩
  ·cases hv:seen.contains i with
   | true=>rfl
   | false=>
    exfalso
    have D:i<(zO l 0).length:=by rw [DT];exact U
    have hb:(zO l 0)[i].born=i:=by
     have h1:=Dw l 0 i;rw [Fw D,Fw U] at h1;simp only [Option.map_some,Option.some.injEq,Nat.zero_add] at h1;rw [h1]
    have hm:(zO l 0)[i]∈(leftOf (zO l 0).toArray seen):=by
     unfold leftOf;rw [Array.mem_filter];exact ⟨by simp,by rw [hb,hv];rfl⟩
    rw [Array.eq_empty_of_size_eq_zero hz] at hm;simp at hm
  ·rcases E ty with ⟨_,h⟩ | ⟨e,he,_⟩
   ·exact h
   ·rw [Array.eq_empty_of_size_eq_zero hz] at he;simp at he
 ·rcases E 0 with ⟨h0,_⟩ | ⟨e,he,w1,J,G⟩
  ·exact absurd h0 hz
  ·have M:e∈zO l 0:=by
    have:=(mem_left he).1;simpa using this
   obtain ⟨a2,D,hv⟩:=O e M
   have a3:seen.contains e.born=false:=by
    have h1:e∈(zO l 0).toArray.filter (fun e=>!seen.contains e.born):=by simpa [leftOf] using he
    rw [Array.mem_filter] at h1;simpa using h1.2
   rw [D,hv] at G;refine .inr ⟨e.born,a2,a3,w1,J,fun ty=>G,?_⟩;have h1:w1.heap=w.heap:=by rcases J with rfl | rfl <;> rfl
   have a5:r<w1.heap.size:=by rw [h1];exact a4
   have:=run_entry_at (P:=P) (setBlock w1 r (.mapIter (some g) l.length (seen.push e.born) l.length)) g r l.length seen (zO l 0).toArray l.length e (setBlock_same _ a5) (by rw [EO _ a1,h1];exact V) (by simpa using M) (by
    show ((zO l 0).map (·.born)).Nodup;rw [EB];exact List.nodup_range')
   rw [D,hv] at this;exact this
end
section
open Go.RowKit
open Go.ChangeMaps (setBlock)
attribute [local go_sem ↓] Go.wp_at_zero Go.wp_at_succ
theorem zC {md:Region.Mode} {es:Array Edge} {e:Nat->Bool} (G:∀d∈es,Region.binds md d=true->e d.on=true) (ks:List Nat) (h:(ks.all fun k=>es.toList.any fun d=>Region.binds md d && decide (d.on=k))=true):∀k∈ks,e k=true:=by
 intro k I;obtain ⟨d,E,D⟩:=zaE.1 (zaF.1 h k I);simp only [FK,FI] at D;rw [<-D.2];exact G d (by simpa using E) D.1
section
variable {W W':World} {B:Nat}
theorem zQ.ext {v:Value} (h:zQ W B v l) (D:za W W'):zQ W' B v l:=h.kept (row:=none) ⟨D.os,D.tape,D.output,D.size,fun i E _=>D.block i E⟩ (by cases h:v.ownBlock <;> simp)
theorem Cy.ext {v:Value} (h:Cy W B v vs) (D:za W W'):Cy W' B v vs:=World.ownsRow.kept h (row:=none) ⟨D.os,D.tape,D.output,D.size,fun i E _=>D.block i E⟩ (by cases h:v.ownBlock <;> simp)
theorem own_ne {e e':TypeId} {v v':Value} {n n':Nat} {xs':List Value} {B':Nat} (h:W.ownsRow B e 1 v n xs) (G:W.ownsRow B' e' 1 v' n' xs') (E:e≠e'):v.ownBlock=none\/v.ownBlock≠v'.ownBlock:=by
 rcases h.2 with ⟨rfl,_⟩ | ⟨g,cap,cur,rfl,_,I,_⟩
 ·exact .inl rfl
 ·refine .inr fun e=>?_
  rcases G.2 with ⟨rfl,_⟩ | ⟨g',cap',cur',rfl,_,D,_⟩
  ·cases e
  ·have e:some g=some g':=e;injection e with e;subst e;rw [I] at D;injection D with D;injection D with _ ht;exact E ht
theorem BW {e:TypeId} {v:Value} {n:Nat} (h:W.ownsRow B e 1 v n xs) (D:zW W g l):v.ownBlock=none\/v.ownBlock≠some g:=by
 rcases h.2 with ⟨rfl,_⟩ | ⟨g',cap,cur,rfl,_,E,_⟩
 ·exact .inl rfl
 ·refine .inr fun e=>?_
  have e:some g'=some g:=e;injection e with e;subst e;unfold zW at D;rw [E] at D;injection D with D;cases D
end
theorem CB {W:World} {x:Int} (h:W.cell? ⟨g,0,none⟩=some (.int .i64 x)):zg W (fun _=>True) (.slice (some ⟨g,0,none⟩) 1 1) [x]:=
 ⟨some ⟨g,0,none⟩,1,rfl,Fy _,rfl,fun _=>⟨g,0,rfl,trivial,fun j u D=>by
  match j,D with
  | 0,D=>
   have:u=.int .i64 x:=by simpa using D.symm
   subst this;exact h⟩⟩
structure JW (w:World) (ch:List Int) (n:Int) (vsp:List Value) (m:MZ) (f u t:Value) (e:Nat->Bool) (v:Nat->Value) (W:World):Prop where
 ext:za w W
 c1:e 8=true->e 11=false->zQ W w.heap.size (v 8) ch
 b:e 10=true->e 11=false->∃g,v 10=.slice (some ⟨g,0,none⟩) 1 1/\W.cell? ⟨g,0,none⟩=some (.int .i64 n)
 ap:e 11=true->zQ W w.heap.size (v 11) (ch++[n])
 c2:e 16=true->Cy W w.heap.size (v 16) vsp
 mm:e 17=true->∃gu,v 17=.map (some gu)/\w.heap.size<=gu/\zW W gu (if e 19 then [n] else [])
 mv:e 20=true->v 20=v 17
 bd:e 21=true->v 21=.agg #[.int .i64 m.w,.int .i64 m.h,.int .i64 m.l,f,u,t,v 11,v 16,v 20]
 bx:e 22=true->∃gs,v 22=.pointer (some ⟨gs,0,none⟩)/\w.heap.size<=gs/\ze W gs 207 #[.int .i64 m.w,.int .i64 m.h,.int .i64 m.l,f,u,t,v 11,v 16,v 20]
 fin:e 23=true->v 23=v 22
 d11:e 11=true->e 8=true
 d19:e 19=true->e 17=true
 d20:e 20=true->e 19=true
 d21:e 21=true->e 11=true/\e 16=true/\e 20=true
 d22:e 22=true->e 21=true
 d23:e 23=true->e 22=true
theorem ff {C:Prop} (h:b=false) (a:b=true):C:=by rw [h] at a;cases a
section
variable {w W W':World} {ch:List Int} {n:Int} {vsp:List Value} {m:MZ} {f u t:Value} {e:Nat->Bool} {v:Nat->Value}
theorem JW.keep (h:JW w ch n vsp m f u t e v W) (D:za W W'):JW w ch n vsp m f u t e v W':=
 ⟨h.ext.trans D,fun a b=>(h.c1 a b).ext D,fun a b=>by obtain ⟨g,h1,h2⟩:=h.b a b;exact ⟨g,h1,D.cell h2⟩,fun a=>(h.ap a).ext D,fun a=>(h.c2 a).ext D,
  fun a=>by obtain ⟨g,h1,h2,h3⟩:=h.mm a;exact ⟨g,h1,h2,h3.below D⟩,h.mv,h.bd,fun a=>by obtain ⟨g,h1,h2,h3⟩:=h.bx a;exact ⟨g,h1,h2,h3.ext D⟩,h.fin,h.d11,h.d19,h.d20,h.d21,h.d22,h.d23⟩
theorem JW.s8 (h:JW w ch n vsp m f u t e v W) (D:e 11=false) (E:zQ W w.heap.size x ch):JW w ch n vsp m f u t (AY e 8 true) (AY v 8 x) W:=by
 exact ⟨h.ext,fun _ _=>E,h.b,h.ap,h.c2,h.mm,h.mv,h.bd,h.bx,h.fin,fun _=>rfl,h.d19,h.d20,h.d21,h.d22,h.d23⟩
theorem JW.s10 (h:JW w ch n vsp m f u t e v W) (D:W.cell? ⟨g,0,none⟩=some (.int .i64 n)):JW w ch n vsp m f u t (AY e 10 true) (AY v 10 (.slice (some ⟨g,0,none⟩) 1 1)) W:=by
 exact ⟨h.ext,h.c1,fun _ _=>⟨g,rfl,D⟩,h.ap,h.c2,h.mm,h.mv,h.bd,h.bx,h.fin,h.d11,h.d19,h.d20,h.d21,h.d22,h.d23⟩
theorem JW.s11 (h:JW w ch n vsp m f u t e v W) (M:e 8=true) (D:e 11=false) (E:e 21=false) (G:e 22=false) (Q:zQ W' w.heap.size x (ch++[n])) (I:Hid (W.grownBy W' (v 8).ownBlock)):JW w ch n vsp m f u t (AY e 11 true) (AY v 11 x) W':=by
 have J:=h.c1 M D;refine ⟨?_,?_,?_,?_,?_,?_,?_,?_,?_,?_,fun _=>M,h.d19,h.d20,fun a=>⟨rfl,(h.d21 a).2⟩,h.d22,h.d23⟩
 ·exact zK h.ext I h.ext.size (fun k O=>Ad J O)
 ·exact fun _ h=>by cases h
 ·exact fun _ h=>by cases h
 ·exact fun _=>Q
 ·exact fun a=>World.ownsRow.kept (h.c2 a) I.out (own_ne (h.c2 a) J (by decide))
 ·intro a;obtain ⟨gu,h1,h2,h3⟩:=h.mm a;refine ⟨gu,h1,h2,(I.out.block gu (zd h3) (fun e=>?_)).trans h3⟩;rcases BW J h3 with h4 | h4
  ·rw [h4] at e;cases e
  ·exact h4 e.symm
 ·exact h.mv
 ·exact fun a=>ff E a
 ·exact fun a=>ff G a
 ·exact h.fin
theorem JW.s16 (h:JW w ch n vsp m f u t e v W) (D:e 21=false) (E:e 22=false) (G:Cy W w.heap.size x vsp):JW w ch n vsp m f u t (AY e 16 true) (AY v 16 x) W:=by
 exact ⟨h.ext,h.c1,h.b,h.ap,fun _=>G,h.mm,h.mv,fun a=>ff D a,fun a=>ff E a,h.fin,h.d11,h.d19,h.d20,fun a=>⟨(h.d21 a).1,rfl,(h.d21 a).2.2⟩,h.d22,h.d23⟩
theorem JW.s17 (h:JW w ch n vsp m f u t e v W) (D:e 19=false) (E:e 20=false) (G:w.heap.size<=g) (I:zW W g []):JW w ch n vsp m f u t (AY e 17 true) (AY v 17 (.map (some g))) W:=by
 exact ⟨h.ext,h.c1,h.b,h.ap,h.c2,fun _=>⟨g,rfl,G,by show zW _ _ (if e 19=true then [n] else []);rw [D];exact I⟩,fun a=>ff E a,h.bd,h.bx,h.fin,h.d11,fun _=>rfl,h.d20,h.d21,h.d22,h.d23⟩
theorem JW.s19 (h:JW w ch n vsp m f u t e v W) (I:e 17=true) (M:v 17=.map (some gu)) (G:zW W gu []) (J:e 22=false) (O:zW W' gu [n]) (D:W.grownBy W' (some gu)) (E:w.heap.size<=gu):JW w ch n vsp m f u t (AY e 19 true) (AY v 19 x) W':=by
 refine ⟨?_,?_,?_,?_,?_,?_,?_,?_,?_,?_,h.d11,fun _=>I,fun _=>rfl,h.d21,h.d22,h.d23⟩
 ·exact Bj h.ext D h.ext.size E
 ·exact fun a b=>World.ownsRow.kept (h.c1 a b) D (BW (h.c1 a b) G)
 ·intro a b;obtain ⟨g,h1,h2⟩:=h.b a b;refine ⟨g,h1,(World.grownBy.cell D h2 (fun e=>?_))⟩;injection e with e;have:g=gu:=e;subst this;unfold zW at G;unfold World.cell? at h2;simp [G,mapObj] at h2
 ·exact fun a=>World.ownsRow.kept (h.ap a) D (BW (h.ap a) G)
 ·exact fun a=>World.ownsRow.kept (h.c2 a) D (BW (h.c2 a) G)
 ·exact fun _=>⟨gu,M,E,O⟩
 ·exact h.mv
 ·exact h.bd
 ·exact fun a=>ff J a
 ·exact h.fin
theorem JW.s20 (h:JW w ch n vsp m f u t e v W) (D:e 19=true) (E:e 21=false) (G:e 22=false):JW w ch n vsp m f u t (AY e 20 true) (AY v 20 (v 17)) W:=by
 exact ⟨h.ext,h.c1,h.b,h.ap,h.c2,h.mm,fun _=>rfl,fun a=>ff E a,fun a=>ff G a,h.fin,h.d11,h.d19,fun _=>D,fun a=>⟨(h.d21 a).1,(h.d21 a).2.1,rfl⟩,h.d22,h.d23⟩
theorem JW.s21 (h:JW w ch n vsp m f u t e v W) (D:e 11=true/\e 16=true/\e 20=true) (E:x=.agg #[.int .i64 m.w,.int .i64 m.h,.int .i64 m.l,f,u,t,v 11,v 16,v 20]):JW w ch n vsp m f u t (AY e 21 true) (AY v 21 x) W:=by
 exact ⟨h.ext,h.c1,h.b,h.ap,h.c2,h.mm,h.mv,fun _=>E,h.bx,h.fin,h.d11,h.d19,h.d20,fun _=>D,fun _=>rfl,h.d23⟩
theorem JW.s22 {gs:Nat} (h:JW w ch n vsp m f u t e v W) (D:e 21=true) (E:e 23=false) (I:w.heap.size<=gs) (G:ze W gs 207 #[.int .i64 m.w,.int .i64 m.h,.int .i64 m.l,f,u,t,v 11,v 16,v 20]):JW w ch n vsp m f u t (AY e 22 true) (AY v 22 (.pointer (some ⟨gs,0,none⟩))) W:=by
 exact ⟨h.ext,h.c1,h.b,h.ap,h.c2,h.mm,h.mv,h.bd,fun _=>⟨gs,rfl,I,G⟩,fun a=>ff E a,h.d11,h.d19,h.d20,h.d21,fun _=>D,fun _=>rfl⟩
theorem JW.s23 (h:JW w ch n vsp m f u t e v W) (D:e 22=true):JW w ch n vsp m f u t (AY e 23 true) (AY v 23 (v 22)) W:=by
 exact ⟨h.ext,h.c1,h.b,h.ap,h.c2,h.mm,h.mv,h.bd,h.bx,fun _=>rfl,h.d11,h.d19,h.d20,h.d21,h.d22,fun _=>D⟩
theorem JW.init {w:World} {ch:List Int} {n:Int} {vsp:List Value} {m:MZ} {f u t:Value} {e:Nat->Bool} {v:Nat->Value} (he:∀j∈[8,10,11,16,17,19,20,21,22,23],e j=false):JW w ch n vsp m f u t e v w.drew:=
 ⟨DV,fun a=>ff (he 8 (by simp)) a,fun a=>ff (he 10 (by simp)) a,fun a=>ff (he 11 (by simp)) a,fun a=>ff (he 16 (by simp)) a,fun a=>ff (he 17 (by simp)) a,fun a=>ff (he 20 (by simp)) a,fun a=>ff (he 21 (by simp)) a,
  fun a=>ff (he 22 (by simp)) a,fun a=>ff (he 23 (by simp)) a,fun a=>ff (he 11 (by simp)) a,fun a=>ff (he 19 (by simp)) a,fun a=>ff (he 20 (by simp)) a,fun a=>ff (he 21 (by simp)) a,fun a=>ff (he 22 (by simp)) a,fun a=>ff (he 23 (by simp)) a⟩
theorem notT {c:Bool} (h:b=true->c=true) (D:c=false):b=false:=by
 cases b with
 | false=>rfl
 | true=>exact absurd (h rfl) (by rw [D];simp)
theorem JW.n11 (h:JW w ch n vsp m f u t e v W) (D:e 8=false):e 11=false:=notT h.d11 D
theorem JW.n21 (h:JW w ch n vsp m f u t e v W) (D:e 11=false):e 21=false:=notT (fun a=>(h.d21 a).1) D
theorem JW.n21' (h:JW w ch n vsp m f u t e v W) (D:e 16=false):e 21=false:=notT (fun a=>(h.d21 a).2.1) D
theorem JW.n21'' (h:JW w ch n vsp m f u t e v W) (D:e 20=false):e 21=false:=notT (fun a=>(h.d21 a).2.2) D
theorem JW.n22 (h:JW w ch n vsp m f u t e v W) (D:e 21=false):e 22=false:=notT h.d22 D
theorem JW.n23 (h:JW w ch n vsp m f u t e v W) (D:e 22=false):e 23=false:=notT h.d23 D
theorem JW.n20 (h:JW w ch n vsp m f u t e v W) (D:e 19=false):e 20=false:=notT h.d20 D
theorem JW.n19 (h:JW w ch n vsp m f u t e v W) (D:e 17=false):e 19=false:=notT h.d19 D
end
structure WO (w W:World) (m:MZ) (ch:List Int) (vsp:List Value) (f u t:Value) (gs gm:Nat) (v1 v2:Value) (us:List Int):Prop where
 ext:za w W
 hs:w.heap.size<=gs
 hm:w.heap.size<=gm
 blk:ze W gs 207 (stCells m f u t v1 v2 gm)
 ch:zQ W w.heap.size v1 ch
 ps:Cy W w.heap.size v2 vsp
 set:zW W gm us
section
variable {w W W':World} {m:MZ} {ch us us':List Int} {vsp:List Value} {f u t v1 v2:Value} {gs gm:Nat}
theorem WO.keep (h:WO w W m ch vsp f u t gs gm v1 v2 us) (D:za W W'):WO w W' m ch vsp f u t gs gm v1 v2 us:=
 ⟨h.ext.trans D,h.hs,h.hm,h.blk.ext D,h.ch.ext D,h.ps.ext D,h.set.below D⟩
theorem blk_set_ne {W:World} {g':Nat} {t:TypeId} (h:ze W g t cs) (D:zW W g' l):g≠g':=by
 rintro rfl;unfold ze at h;unfold zW mapObj at D;rw [h] at D
 cases D
theorem WO.add (h:WO w W m ch vsp f u t gs gm v1 v2 us) (E:zW W' gm us') (D:W.grownBy W' (some gm)):WO w W' m ch vsp f u t gs gm v1 v2 us':=
 ⟨Bj h.ext D h.ext.size h.hm,h.hs,h.hm,(D.block gs (zd h.blk) (fun e=>by injection e with e;exact blk_set_ne h.blk h.set e)).trans h.blk,
  World.ownsRow.kept h.ch D (BW h.ch h.set),World.ownsRow.kept h.ps D (BW h.ps h.set),E⟩
theorem grown_iter {W:World} (h:w1=W\/w1=W.drew):W.grownBy (setBlock w1 r o) (some r):=by
 have h1:w1.heap=W.heap/\w1.os=W.os/\w1.tape=W.tape/\w1.output=W.output:=by rcases h with rfl | rfl <;> exact ⟨rfl,rfl,rfl,rfl⟩
 refine ⟨h1.2.1,h1.2.2.1,h1.2.2.2,by simp [setBlock,h1.1],fun k _ D=>?_⟩;rw [EO _ (fun e=>D (by rw [e])),h1.1]
theorem iter_ne {W:World} {k:Nat} (h:IterIs W r g since seen c0) (D:W.heap[k]?=some o) (E:∀a b c d,o≠.mapIter a b c d):k≠r:=by
 rintro rfl;unfold IterIs at h;rw [D] at h;injection h with h;exact E _ _ _ _ h
theorem own_iter_ne {W:World} {B:Nat} {e:TypeId} {v:Value} {n:Nat} (h:W.ownsRow B e 1 v n xs) (E:IterIs W r g since seen c0):v.ownBlock=none\/v.ownBlock≠some r:=by
 rcases h.2 with ⟨rfl,_⟩ | ⟨g',cap,cur,rfl,_,D,_⟩
 ·exact .inl rfl
 ·refine .inr fun e=>?_
  have e:some g'=some r:=e;injection e with e;exact iter_ne E D (fun _ _ _ _ h=>by cases h) e
theorem own_capL {w:World} {B:Nat} (h:Cy w B (.slice (some ⟨g,0,none⟩) vs.length c) vs):vs.length<=c:=Bq h
theorem WO.st {ch0 us0:List Int} (h0:BN w ok g m ch0 ps us0 f u t vc vp gu) (D:∀(i:Nat) (x:List Int),ps[i]?=some x->∃u,vsp[i]?=some u/\zg w ok u x) (h:WO w W m ch vsp f u t gs gm v1 v2 us)
  (E:vsp.length=ps.length):BN W (fun b=>ok b\/w.heap.size<=b) gs m ch ps us f u t v1 v2 gm:=
 BN.make h.ext h0.maze (fun _ h=>.inl h) h.blk (.inr h.hs) ((AS.of_own h.ch).weaken (fun _ h=>.inr h)) ⟨vsp,by rw [<-E];exact (AS.of_own h.ps).weaken (fun _ h=>.inr h),fun i x J=>by
  obtain ⟨u,I,G⟩:=D i x J;exact ⟨u,I,(G.below h.ext).weaken (fun _ h=>.inl h)⟩⟩ (.inr h.hm) h.set
theorem mem_step {us:List Int} {n x:Int} (E:i<us.length):((x=n\/∃j,us[j]?=some x/\seen.contains j=true)\/x=us[i])↔(x=n\/∃j,us[j]?=some x/\(seen.push i).contains j=true):=by
 have D:∀j,(seen.push i).contains j=true↔seen.contains j=true\/j=i:=by
  intro j;simp
 constructor
 ·rintro ((h | ⟨j,h1,h2⟩) | h)
  ·exact .inl h
  ·exact .inr ⟨j,h1,(D j).2 (.inl h2)⟩
  ·exact .inr ⟨i,by rw [Fw E,h],(D i).2 (.inr rfl)⟩
 ·rintro (h | ⟨j,h1,h2⟩)
  ·exact .inl (.inl h)
  ·rcases (D j).1 h2 with h3 | rfl
   ·exact .inl (.inr ⟨j,h1,h3⟩)
   ·rw [Fw E] at h1;injection h1 with h1;exact .inr h1.symm
theorem mem_all {us:List Int} {n x:Int} (h:∀i,i<us.length->seen.contains i=true):(x=n\/∃j,us[j]?=some x/\seen.contains j=true)↔(x=n\/x∈us):=by
 constructor
 ·rintro (h1 | ⟨j,h1,_⟩)
  ·exact .inl h1
  ·exact .inr (List.mem_of_getElem? h1)
 ·rintro (h1 | h1)
  ·exact .inl h1
  ·obtain ⟨j,D,rfl⟩:=zaq h1;exact .inr ⟨j,Fw D,h j D⟩
structure RW (w W:World) (m:MZ) (ch:List Int) (vsp:List Value) (f u t:Value) (gs gm:Nat) (v1 v2:Value) (us2:List Int) (r gu:Nat) (us:List Int) (n:Int) (seen:Array Nat) (c0:Nat):Prop where
 wo:WO w W m ch vsp f u t gs gm v1 v2 us2
 it:IterIs W r gu us.length seen c0
 hr:w.heap.size<=r
 hc:us.length<=c0
 old:zW W gu us
 mem:∀x,x∈us2↔x=n\/∃i,us[i]?=some x/\seen.contains i=true
theorem RW.step {w W:World} {m:MZ} {ch us us2:List Int} {vsp:List Value} {f u t v1 v2:Value} {gs gm:Nat} {n:Int} (h:RW w W m ch vsp f u t gs gm v1 v2 us2 r gu us n seen c0) (I:gu<w.heap.size) (G:w1=W\/w1=W.drew):
  WO w (setBlock w1 r (.mapIter (some gu) us.length (seen.push i) us.length)) m ch vsp f u t gs gm v1 v2 us2/\IterIs (setBlock w1 r (.mapIter (some gu) us.length (seen.push i) us.length)) r gu us.length (seen.push i) us.length/\zW (setBlock w1 r (.mapIter (some gu) us.length (seen.push i) us.length)) gu us:=by
 have E:W.grownBy (setBlock w1 r (.mapIter (some gu) us.length (seen.push i) us.length)) (some r):=grown_iter G;have h1:w1.heap=W.heap:=by rcases G with rfl | rfl <;> rfl
 have D:∀(k:Nat) (o:Obj),W.heap[k]?=some o->(∀a b c d,o≠.mapIter a b c d)->k≠r:=fun k o J M=>iter_ne h.it J M
 refine ⟨⟨Bj h.wo.ext E h.wo.ext.size h.hr,h.wo.hs,h.wo.hm,?_,World.ownsRow.kept h.wo.ch E (own_iter_ne h.wo.ch h.it),World.ownsRow.kept h.wo.ps E (own_iter_ne h.wo.ps h.it),?_⟩,?_,?_⟩
 ·exact (E.block gs (zd h.wo.blk) (fun e=>by injection e with e;exact D _ _ h.wo.blk (fun _ _ _ _ h=>by cases h) e)).trans h.wo.blk
 ·exact (E.block gm (zd h.wo.set) (fun e=>by injection e with e;exact D _ _ h.wo.set (fun _ _ _ _ h=>by cases h) e)).trans h.wo.set
 ·exact setBlock_same _ (by rw [h1];exact zd h.it)
 ·exact (E.block gu (zd h.old) (fun e=>by injection e with e;exact D _ _ h.old (fun _ _ _ _ h=>by cases h) e)).trans h.old
end
theorem paths_app {W W3:World} (E:∀(i:Nat) (x:List Int),ps[i]?=some x->∃u,vs[i]?=some u/\zg W ok2 u x) (I:vs.length=ps.length) (G:Ao ok2 W W3):
  ∀(i:Nat) (x:List Int),(ps++[[]])[i]?=some x->∃u,(vs++[.slice none 0 0])[i]?=some u/\zg W3 ok2 u x:=by
 intro i x D;by_cases h:i<ps.length
 ·rw [FD h] at D;obtain ⟨u,M,J⟩:=E i x D;exact ⟨u,by rw [FD (by omega)];exact M,J.keep G⟩
 ·rw [FE (by omega)] at D
  have h0:i - ps.length=0:=by
   rcases zav (i - ps.length) with h | h
   ·exact h
   ·rw [zae (by simp;omega)] at D;cases D
  rw [h0] at D;have:x=[]:=by simpa using D.symm
  subst this;exact ⟨_,by rw [FE (by omega),I,h0];rfl,zg.nil _ _⟩
theorem row_nil1 {W:World} (h:W.cell? ⟨g,0,none⟩=some (.slice none 0 0)) (E:ok g):AS W ok 1 (.slice (some ⟨g,0,none⟩) 1 1) [Value.slice none 0 0].length [.slice none 0 0]:=
 ⟨some ⟨g,0,none⟩,1,rfl,Fy _,rfl,fun _=>⟨g,0,rfl,E,fun j u D=>by
  match j,D with
  | 0,D=>
   have:u=.slice none 0 0:=by simpa using D.symm
   subst this;exact h⟩⟩
theorem Dk {W:World} {t e:TypeId} {B:Nat} {v:Value} {n:Nat} (h:ze W g t cs) (E:W.ownsRow B e 1 v n xs) (D:e≠t):v.ownBlock≠some g:=zn E h D
theorem WO.app {w W W2:World} {m:MZ} {ch us:List Int} {vs':List Value} {f u t v1 v2 v2':Value} {gs gm:Nat} (h:WO w W m ch vs f u t gs gm v1 v2 us) (M:Cy W2 w.heap.size v2' vs') (E:W.grownBy W2 v2.ownBlock):
  WO w (W2.setCell ⟨gs,7,none⟩ v2') m ch vs' f u t gs gm v1 v2' us:=by
 have G:gs<W.heap.size:=zd h.blk;have I:some gs≠v2.ownBlock:=fun e=>Dk h.blk h.ps (by decide) e.symm
 have D:ze W2 gs 207 (stCells m f u t v1 v2 gm):=(E.block gs G I).trans h.blk;have J:zQ W2 w.heap.size v1 ch:=World.ownsRow.kept h.ch E (own_ne h.ch h.ps (by decide))
 have O:zW W2 gm us:=(E.block gm (zd h.set) (fun e=>by
  rcases BW h.ps h.set with h | h
  ·rw [h] at e;cases e
  ·exact h e.symm)).trans h.set
 exact ⟨(h.ext.grown E h.ext.size (fun k Q=>(World.ownsRow.lt h.ps k Q).1)).setCell h.hs _,h.hs,h.hm,D.set v2',ownsRow_setCell_other J (Dk D J (by decide)) _,ownsRow_setCell_other M (Dk D M (by decide)) _,
  (FH W2 _ _ gm (fun e=>blk_set_ne D O e.symm)).trans O⟩
theorem WO.st2 {w W:World} {m:MZ} {ch us:List Int} {f u t v1 v2:Value} {gs gm:Nat} (hm:zL w ok (.agg #[.int .i64 m.w,.int .i64 m.h,.int .i64 m.l,f,u,t]) m) (h:WO w W m ch vs f u t gs gm v1 v2 us) (G:vs.length=ps.length)
  (D:∀(i:Nat) (x:List Int),ps[i]?=some x->∃u,vs[i]?=some u/\zg W ok2 u x) (E:∀b,ok2 b->ok b\/w.heap.size<=b):BN W (fun b=>ok b\/w.heap.size<=b) gs m ch ps us f u t v1 v2 gm:=
 BN.make h.ext hm (fun _ h=>.inl h) h.blk (.inr h.hs) ((AS.of_own h.ch).weaken (fun _ h=>.inr h)) ⟨vs,by rw [<-G];exact (AS.of_own h.ps).weaken (fun _ h=>.inr h),fun i x M=>by
  obtain ⟨u,J,I⟩:=D i x M;exact ⟨u,J,I.weaken E⟩⟩ (.inr h.hm) h.set
def CF (ps:List (List Int)) (n:Int):List (List Int):=ps.set (ps.length - 1) (ps.getD (ps.length - 1) []++[n])
def Ch (m:MZ) (ps:List (List Int)) (n:Int):List (List Int):=if finB m (CF ps n)=true/\ps.length<m.tasks.length then CF ps n++[[]] else CF ps n
theorem ints_setCell {W:World} {v:Value} {b k:Nat} (h:zg W ok v l) (D:¬ ok b):zg (W.setCell ⟨b,k,none⟩ x) ok v l:=
 h.keep (fun g E _=>FH W ⟨b,k,none⟩ x g (fun e=>D (by rw [<-show g=b from e];exact E)))
theorem paths_set {w wt W9:World} {m:MZ} {ch us:List Int} {f u t v1 x15:Value} {gs gm b2 k:Nat} {q:List Int}
  (Q:∀(i:Nat) (x:List Int),ps[i]?=some x->∃u,vs[i]?=some u/\zg w ok u x) (hl:vs.length=ps.length) (M:WO w wt m ch vs f u t gs gm v1 (.slice (some ⟨b2,0,none⟩) vs.length c) us) (hE:za wt W9) (a4:w.heap.size<=b2) (O:b2<wt.heap.size) (hk:k<vs.length)
  (hx:zg W9 (fun b=>wt.heap.size<=b) x15 q):
  ∀(i:Nat) (x:List Int),(ps.set k q)[i]?=some x->∃u,(vs.set k x15)[i]?=some u/\zg (W9.setCell ⟨b2,k,none⟩ x15) (fun b=>(ok b/\b<w.heap.size)\/wt.heap.size<=b) u x:=by
 intro i x G;by_cases E:k=i
 ·subst E;rw [List.getElem?_set_self (by omega)] at G;injection G with G;subst G;refine ⟨x15,by rw [List.getElem?_set_self hk],(ints_setCell hx (by omega)).weaken (fun b I=>.inr I)⟩
 ·rw [List.getElem?_set_ne E] at G;obtain ⟨u',a1,hr⟩:=Q i x G;refine ⟨u',by rw [List.getElem?_set_ne E];exact a1,?_⟩
  have a0:zg w (fun b=>ok b/\b<w.heap.size) u' x:=by
   obtain ⟨A,c',e,hc,U,D⟩:=hr;refine ⟨A,c',e,hc,U,fun hn=>?_⟩;obtain ⟨b,off,e',I,J⟩:=D hn
   have V:b<w.heap.size:=by
    have h0:0<(x.map (Value.int .i64)).length:=by simpa using hn
    exact zo (J 0 _ (Fw h0))
   exact ⟨b,off,e',⟨I,V⟩,J⟩
  exact ((ints_setCell (a0.below (M.ext.trans hE)) (by omega)).weaken (fun b I=>.inl I))
structure J7 (wk:World) (b2 k:Nat) (p:List Int) (n:Int) (up:Value) (e:Nat->Bool) (v:Nat->Value) (W:World):Prop where
 ext:e 17=false->za wk W
 l:e 11=true->v 11=up
 c:e 12=true->e 15=false->zQ W wk.heap.size (v 12) p
 b:e 14=true->e 15=false->∃g,v 14=.slice (some ⟨g,0,none⟩) 1 1/\W.cell? ⟨g,0,none⟩=some (.int .i64 n)
 ap:e 15=true->e 17=false->zQ W wk.heap.size (v 15) (p++[n])
 ix:e 16=true->v 16=.pointer (some ⟨b2,k,none⟩)
 st:e 17=true->∃W9,za wk W9/\zQ W9 wk.heap.size (v 15) (p++[n])/\W=W9.setCell ⟨b2,k,none⟩ (v 15)
 d12:e 12=true->e 11=true
 d15:e 15=true->e 12=true/\e 14=true
 d17:e 17=true->e 15=true/\e 16=true
section
variable {wk W W':World} {b2 k:Nat} {p:List Int} {n:Int} {up:Value} {e:Nat->Bool} {v:Nat->Value}
theorem J7.init (he:∀j∈[11,12,14,15,16,17],e j=false):J7 wk b2 k p n up e v wk.drew:=
 ⟨fun _=>DV,fun a=>ff (he 11 (by simp)) a,fun a=>ff (he 12 (by simp)) a,fun a=>ff (he 14 (by simp)) a,fun a=>ff (he 15 (by simp)) a,fun a=>ff (he 16 (by simp)) a,fun a=>ff (he 17 (by simp)) a,fun a=>ff (he 12 (by simp)) a,fun a=>ff (he 15 (by simp)) a,fun a=>ff (he 17 (by simp)) a⟩
theorem J7.n15 (h:J7 wk b2 k p n up e v W) (D:e 12=false):e 15=false:=notT (fun a=>(h.d15 a).1) D
theorem J7.n15' (h:J7 wk b2 k p n up e v W) (D:e 14=false):e 15=false:=notT (fun a=>(h.d15 a).2) D
theorem J7.n12 (h:J7 wk b2 k p n up e v W) (D:e 11=false):e 12=false:=notT h.d12 D
theorem J7.n17 (h:J7 wk b2 k p n up e v W) (D:e 15=false):e 17=false:=notT (fun a=>(h.d17 a).1) D
theorem J7.s11 (h:J7 wk b2 k p n up e v W):J7 wk b2 k p n up (AY e 11 true) (AY v 11 up) W:=
 ⟨h.ext,fun _=>rfl,h.c,h.b,h.ap,h.ix,h.st,fun _=>rfl,h.d15,h.d17⟩
theorem J7.s12 (h:J7 wk b2 k p n up e v W) (G:e 17=false) (D:e 15=false) (E:e 11=true) (I:za W W') (J:zQ W' wk.heap.size x p):J7 wk b2 k p n up (AY e 12 true) (AY v 12 x) W':=
 ⟨fun a=>(h.ext a).trans I,h.l,fun _ _=>J,fun a b=>(by obtain ⟨g,h1,h2⟩:=h.b a b;exact ⟨g,h1,I.cell h2⟩),fun a=>ff D a,h.ix,fun a=>ff G a,fun _=>E,fun a=>ff D a,h.d17⟩
theorem J7.s14 (h:J7 wk b2 k p n up e v W) (E:e 17=false) (D:e 15=false) (G:za W W') (I:W'.cell? ⟨g,0,none⟩=some (.int .i64 n)):J7 wk b2 k p n up (AY e 14 true) (AY v 14 (.slice (some ⟨g,0,none⟩) 1 1)) W':=
 ⟨fun a=>(h.ext a).trans G,h.l,fun a b=>(h.c a b).ext G,fun _ _=>⟨g,rfl,I⟩,fun a=>ff D a,h.ix,fun a=>ff E a,h.d12,fun a=>ff D a,h.d17⟩
theorem J7.s15 (h:J7 wk b2 k p n up e v W) (G:e 17=false) (D:e 12=true) (E:e 14=true) (I:za wk W') (J:zQ W' wk.heap.size x (p++[n])):J7 wk b2 k p n up (AY e 15 true) (AY v 15 x) W':=
 ⟨fun _=>I,h.l,fun _ a=>(by cases a),fun _ a=>(by cases a),fun _ _=>J,h.ix,fun a=>ff G a,h.d12,fun _=>⟨D,E⟩,fun a=>⟨rfl,(h.d17 a).2⟩⟩
theorem J7.s16 (h:J7 wk b2 k p n up e v W):J7 wk b2 k p n up (AY e 16 true) (AY v 16 (.pointer (some ⟨b2,k,none⟩))) W:=
 ⟨h.ext,h.l,h.c,h.b,h.ap,fun _=>rfl,h.st,h.d12,h.d15,fun a=>⟨(h.d17 a).1,rfl⟩⟩
theorem J7.s17 (h:J7 wk b2 k p n up e v W) (E:e 17=false) (D:e 15=true) (G:e 16=true) (hW:W'=W.setCell ⟨b2,k,none⟩ (v 15)):J7 wk b2 k p n up (AY e 17 true) (AY v 17 x) W':=
 ⟨fun a=>(by cases a),h.l,fun _ a=>ff (b:=e 15) a D,fun _ a=>ff (b:=e 15) a D,fun _ a=>(by cases a),h.ix,fun _=>⟨W,h.ext E,h.ap D E,hW⟩,h.d12,h.d15,fun _=>⟨D,G⟩⟩
theorem WO.store {w:World} {m:MZ} {ch us:List Int} {vsp:List Value} {f u t v1:Value} {gs gm:Nat} (h:WO w W m ch vsp f u t gs gm v1 (.slice (some ⟨b2,0,none⟩) vsp.length c) us) (E:w.heap.size<=b2):
  WO w (W.setCell ⟨b2,k,none⟩ x) m ch (vsp.set k x) f u t gs gm v1 (.slice (some ⟨b2,0,none⟩) vsp.length c) us:=by
 have h2:Cy (W.setCell ⟨b2,k,none⟩ x) w.heap.size (.slice (some ⟨b2,0,none⟩) vsp.length c) (vsp.set k x):=by
  have:=(World.ownsRow.stored h.ps k x).1;unfold Cy;rw [List.length_set];exact this
 have D:=(World.ownsRow.stored h.ps k x).2;have h3:v1.ownBlock=none\/v1.ownBlock≠some b2:=own_ne h.ch h.ps (by decide);have h4:b2≠gs:=fun e=>Dk h.blk h.ps (by decide) (by rw [<-e];rfl)
 have G:b2≠gm:=fun e=>by
  rcases BW h.ps h.set with h | h
  ·cases h
  ·exact h (by rw [<-e];rfl)
 exact ⟨Bj h.ext D h.ext.size E,h.hs,h.hm,(D.block gs (zd h.blk) (fun e=>by injection e with e;exact h4 e.symm)).trans h.blk,World.ownsRow.kept h.ch D h3,h2,(D.block gm (zd h.set) (fun e=>by injection e with e;exact G e.symm)).trans h.set⟩
end
theorem with_calls {m:MZ} {ch us:List Int} {f u:Value} (n:Int) (w:World) (h:BN w ok g m ch ps us f u ts vc vp gu) (so:SOk m ch ps) (so1:SOk m (ch++[n]) (CF ps n)) (hp:0<ps.length):
  Calls Tryz.prog 149 #[.pointer (some ⟨g,0,none⟩),.int .i64 n] w fun e w'=>∃v',e=.returned v'/\za w w'/\∃us',(∀x,x∈us'↔x=n\/x∈us)/\DP w' (fun b=>ok b\/w.heap.size<=b) v' m (ch++[n]) (Ch m ps n) us':=by
 obtain ⟨r0,r1,r2,r3,r4,r5,r6,r7,r8⟩:=h.rules;have o1:=h.ps;have r9:=h.ch;have n8:=h.maze;obtain ⟨fr',up',ts',b3,_,_,o5⟩:=n8;injection b3 with b3;injection b3 with b3;simp only [List.cons.injEq,and_true,true_and] at b3;obtain ⟨rfl,rfl,rfl⟩:=b3;obtain ⟨vst,⟨At,ct,rfl,s0,_⟩,_⟩:=o5;have SO1:=zh so1;clear so1;have HS:=zh h;clear h;have so_pl:ps.length<=6:=FA so.pl so.good.tk;have SO:=zh so;clear so;obtain ⟨vs,b0,h9⟩:=o1
 have i7:vs.length=ps.length:=by
  obtain ⟨_,_,_,_,hr⟩:=b0;have:=hr.1;omega
 have h1:∀u∈vs,u.oneCell'=true:=by
  intro u hu;obtain ⟨i,hi,rfl⟩:=zaq hu;obtain ⟨u',f3,o3⟩:=h9 i _ (Fw (by omega:i<ps.length));rw [Fw hi] at f3;injection f3 with f3;rw [f3];exact EC o3
 rw [<-i7] at b0;have q5:vs.length<=6:=by have:=so_pl;omega
 have H1:=zh h1;clear h1;have a1:=zh i7;clear i7;have j3:=zh b0;clear b0;have g3:=zh h9;clear h9;have s3:=@run_makeMap Tryz.prog;have hx:=za.refl w
 go_enter Tryz.func149,Tryz.ntmps149
 go_wp2_with fail
 refine zab (S:=(fun w'=>za w w')) (by kernel_rfl) (DV) fun zH=>?_;refine zi 0 zH ?_;refine zi 1 zH ?_;simp only [zc,Fv];refine zi 2 zH ?_;refine zi 3 zH ?_;simp only [zc,Fv];refine zi 4 zH ?_;refine zi 5 zH ?_;simp only [zc,Fv];refine zi 6 zH ?_;refine zi 7 zH ?_;simp only [zc,Fv];refine zi 9 zH ?_;refine zi 12 zH ?_;simp only [zc,Fv];refine zi 13 zH ?_;refine zi 14 zH ?_;simp only [zc,Fv];refine zi 15 zH ?_;refine zi 18 zH ?_;simp only [zc,Fv];refine Df [8,10,11,16,17,19,20,21,22,23] (fun e v W=>JW w ch n vs m f u (.slice At m.tasks.length ct) e v W) (F:=?F1) (by kernel_rfl) (by kernel_rfl) (by decide) zH (fun v=>?hF1) ?init1 (by kernel_rfl) ?steps1 ?fin1
 case hF1=>(simp only [Ae,CT,List.getElem?_toArray,List.getElem?_cons_succ,List.getElem?_cons_zero,Option.bind,Act.put,List.setIfInBounds_toArray,List.set_cons_succ,List.set_cons_zero];rfl)
 case init1=>
  intro e v he;exact JW.init he
 case steps1=>
  refine zl.cons rfl (fun e v W K D hW he G E=>?_) ?_
  ·simp only [zc] at G E⊢;go_simp;go_at_call 92;refine (cloneI_calls _ (HS.out.ext hW).ch (by have:=SO.out.cl;omega)).mono ?_;rintro e9 w9 ⟨v9,rfl,hM⟩;exact E.out _ v9 _ (by rfl) (hW.trans hM.ext) ((D.keep hM.ext).s8 (D.n11 he) (hM.own.mono hW.size))
  refine zl.cons rfl (fun e v W K D hW he G E=>?_) ?_
  ·simp only [zc] at G E⊢;go_simp;exact E.out _ _ _ (by rfl) (hW.alloc _) ((D.keep ((za.refl W).alloc _)).s10 (zy _ _ _ rfl))
  refine zl.cons rfl (fun e v W K D hW he G E=>?_) ?_
  ·simp only [zc] at G E⊢;have h8:e 8=true:=zC G [8] (by kernel_rfl) 8 (by simp);have m8:e 10=true:=zC G [10] (by kernel_rfl) 10 (by simp);obtain ⟨gb,l5,k5⟩:=D.b m8 he;rw [if_pos (by rfl)];refine Dg (ok:=fun _=>True) W _ _ (by rfl) w.heap.size ch [n] (v 8) (v 10) (by rfl) (by rfl) (D.c1 h8 he) (by rw [l5];exact CB k5) hW.size (by have:=SO.out.cl;simp;omega) ?_;intro v9 w9 ho hg _;exact E.out _ v9 _ (by rfl) (zK hW hg hW.size (fun k hk=>Ad (D.c1 h8 he) hk)) (D.s11 h8 he (D.n21 he) (D.n22 (D.n21 he)) ho hg)
  refine zl.cons rfl (fun e v W K D hW he G E=>?_) ?_
  ·simp only [zc] at G E⊢;go_simp;go_at_call 185;refine (cloneL_calls _ (j3.out.below hW) H1.out (by omega)).mono ?_;rintro e9 w9 ⟨v9,rfl,hE,hO⟩;exact E.out _ v9 _ (by rfl) (hW.trans hE) ((D.keep hE).s16 (D.n21' he) (D.n22 (D.n21' he)) (hO.mono hW.size))
  refine zl.cons rfl (fun e v W K D hW he G E=>?_) ?_
  ·simp only [zc] at G E⊢;go_simp;exact E.out _ _ _ (by rfl) (hW.alloc _) ((D.keep ((za.refl W).alloc _)).s17 (D.n19 he) (D.n20 (D.n19 he)) hW.size (zW.new _))
  refine zl.cons rfl (fun e v W K D hW he G E=>?_) ?_
  ·simp only [zc] at G E⊢;have O:e 17=true:=zC G [17] (by kernel_rfl) 17 (by simp);obtain ⟨gm,J,i0,hset⟩:=D.mm O;rw [he] at hset;obtain ⟨w9,g0,e0,b4⟩:=run_add hset n 205 Tryz.underlying205;have o4:(Instr.mapUpdate 205 (v 17) (.int .i64 n) (.bool true)).run Tryz.prog W=.ok () w9:=by rw [J];exact g0
   have HJ:=zh (D.s19 (x:=undef) O J hset (D.n22 (D.n21'' (D.n20 he))) (by have:=e0;rwa [ins_new (by simp)] at this) b4 i0);clear g0 e0 hset J;go_simp;exact E.out _ undef _ (by rfl) HJ.out.ext HJ.out
  refine zl.cons rfl (fun e v W K D hW he G E=>?_) ?_
  ·simp only [zc] at G E⊢;have m9:e 19=true:=zC G [19] (by kernel_rfl) 19 (by simp);go_simp;exact E.out _ (v 17) _ (by rfl) hW (D.s20 m9 (D.n21'' he) (D.n22 (D.n21'' he)))
  refine zl.cons rfl (fun e v W K D hW he G E=>?_) ?_
  ·simp only [zc] at G E⊢;have b8:e 11=true:=zC G [11] (by kernel_rfl) 11 (by simp);have b9:e 16=true:=zC G [16] (by kernel_rfl) 16 (by simp);have g7:e 20=true:=zC G [20] (by kernel_rfl) 20 (by simp);obtain ⟨A1,c1,e3,_⟩:=Bl (D.ap b8);obtain ⟨A2,c2,e5,_⟩:=AS.of_own (D.c2 b9);have O:=D.d19 (D.d20 g7);obtain ⟨gm,J,_,_⟩:=D.mm O;have b1:=(D.mv g7).trans J;clear J;go_simp;exact E.out _ (.agg #[.int .i64 m.w,.int .i64 m.h,.int .i64 m.l,f,u,.slice At m.tasks.length ct,v 11,v 16,v 20]) _ (by simp [Act.put,e3,e5,b1]) hW (D.s21 ⟨b8,b9,g7⟩ rfl)
  refine zl.cons rfl (fun e v W K D hW he G E=>?_) ?_
  ·simp only [zc] at G E⊢;have j5:e 21=true:=zC G [21] (by kernel_rfl) 21 (by simp);have l7:=D.bd j5;go_simp;exact E.out _ _ _ (by simp [Act.put,l7]) (hW.alloc _) ((D.keep ((za.refl W).alloc _)).s22 j5 (D.n23 he) hW.size (ze.new _ _ _ rfl))
  refine zl.cons rfl (fun e v W K D hW he G E=>?_) ?_
  ·simp only [zc] at G E⊢;have n0:e 22=true:=zC G [22] (by kernel_rfl) 22 (by simp);go_simp;exact E.out _ (v 22) _ (by rfl) hW (D.s23 n0)
  exact zl.nil
 case fin1=>
  intro v W D hW;have e1:=D.fin rfl;obtain ⟨gs,e6,n6,d8⟩:=D.bx rfl;obtain ⟨gm,J,i0,hset⟩:=D.mm rfl;have b1:=(D.mv rfl).trans J;have e2:=e1.trans e6;rw [b1] at d8;have I:Hid (WO w W m (ch++[n]) vs f u (.slice At m.tasks.length ct) gs gm (v 11) (v 16) [n]):=⟨D.ext,n6,i0,d8,D.ap rfl,D.c2 rfl,by simpa using hset⟩;generalize v 11=v1 at*;generalize v 16=v2 at*;rw [e2,e6];clear D d8 hset b1 J e6 e1 e2;have s9:=run_range_map (P:=Tryz.prog) W 205 3 4 gu _ us.length Tryz.underlying205 ((HS.out.ext hW).us);have j8:Hid (RW w (W.alloc (.mapIter (some gu) us.length #[] us.length)) m (ch++[n]) vs f u (.slice At m.tasks.length ct) gs gm v1 v2 [n] W.heap.size gu us n #[] us.length):=⟨I.out.keep ((za.refl W).alloc _),zax _ _,hW.size,Fy _,((HS.out.ext hW).us).below ((za.refl W).alloc _),fun x=>by simp⟩;have n7:gu<w.heap.size:=zd HS.out.us;have s7:=r8 W hW
  go_wp2_with fail
  generalize W.heap.size=r at*
  go_loopg [6] (leftN us.length #[]) (fun gk s6 wr=>∃us2 seen c0,gk=leftN us.length seen/\Hid (RW w wr m (ch++[n]) vs f u (.slice At m.tasks.length ct) gs gm v1 v2 us2 r gu us n seen c0))
  case atStart=>exact ⟨[n],#[],us.length,rfl,j8⟩
  clear j8
  case round=>
   obtain ⟨us2,seen,c0,rfl,hR⟩:=hrel;rcases set_next (P:=Tryz.prog) hR.out.old hR.out.it hR.out.hc with ⟨f8,i5⟩ | ⟨i,hi,n9,w1,h5,i5,n5⟩
   ·have d9:Hid (∀x,x∈us2↔x=n\/x∈us):=fun x=>by rw [hR.out.mem];exact mem_all f8
    have I:=zh hR.out.wo;have a4:=zh (WO.st HS.out g3.out hR.out.wo a1.out);have b5:=hR.out.wo.ext
    go_wp2_with fail
    clear hR f8 i5;obtain ⟨wk,rfl⟩:∃wk:World,wk=wr:=⟨_,rfl⟩;refine (Bp _ a4.out (by omega)).mono ?_;rintro e wt ⟨V,e8⟩;have e8:za wk wt:=e8 ▸ za.refl _;obtain ⟨k,hk⟩:∃k,ps.length=k+1:=⟨ps.length - 1,by omega⟩;have l1:(ps.length:Int) - 1=(k:Int):=by omega
    rw [l1] at V;subst V;have I:=zh (I.out.keep e8);have b5:=I.out.ext;clear a4 e8 l1;have i3:k<ps.length:=by omega
    obtain ⟨up,l4,i2⟩:=g3.out k _ (Fw i3);obtain ⟨p,f2⟩:=zaI (ps[k]);rw [<-f2] at i2;have s4:p.length<=1000:=by rw [f2];exact SO.out.pp _ (Fz i3)
    have m5:=zh f2;clear f2;have m6:=zh i2;clear i2;have m0:vs.length=k+1:=by have:=a1.out;omega
    obtain ⟨b2,cp2,o6,h6,a5⟩:=World.ownsRow.form I.out.ps (by omega);subst o6;have k7:wt.cell? ⟨b2,k,none⟩=some up:=by rw [World.ownsRow.cellAt I.out.ps k (by omega)];exact l4
    have hfz:wt.frozen? ⟨b2,k,none⟩=false:=World.ownsRow.frozenAt I.out.ps k;have rup:=za.rule k7;have a8:wt.cell? ⟨gs,7,none⟩=some (.slice (some ⟨b2,0,none⟩) vs.length cp2):=I.out.blk.cell rfl;have f1:gs<wt.heap.size:=zd I.out.blk;have k9:gs≠b2:=fun e=>Dk I.out.blk I.out.ps (by decide) (by rw [e];rfl)
    have m7:=zh m0;have p9:(k:Int)<(vs.length:Int):=by omega
    have p8:(0:Int)<=(k:Int):=by omega
    have p6:=own_capL I.out.ps;clear k7 l4 hk m0
    go_wp2_with fail
    refine zab (S:=(fun W=>za w W/\W.cell? ⟨gs,7,none⟩=some (.slice (some ⟨b2,0,none⟩) vs.length cp2))) (by kernel_rfl) (⟨b5.drew,a8⟩) fun zH=>?_;refine zi 0 zH ?_;refine zi 1 zH ?_;simp only [zc,Fv];refine zi 2 zH ?_;refine zi 3 zH ?_;simp only [zc,Fv];refine zi 4 zH ?_;refine zi 5 zH ?_;simp only [zc,Fv];refine zi 6 zH ?_;refine zi 7 zH ?_;simp only [zc,Fv];refine zi 8 zH ?_;refine zi 9 zH ?_;simp only [zc,Fv];refine zi 10 zH ?_;refine zi 13 zH ?_;simp only [zc,Fv];refine Df [11,12,14,15,16,17] (fun e v W=>J7 wt b2 k p n up e v W) (F:=?F16) (by kernel_rfl) (by kernel_rfl) (by decide) zH (fun v=>?hF16) ?init16 (by kernel_rfl) ?steps16 ?fin16
    case hF16=>(simp only [Ae,CT,List.getElem?_toArray,List.getElem?_cons_succ,List.getElem?_cons_zero,Option.bind,Act.put,List.setIfInBounds_toArray,List.set_cons_succ,List.set_cons_zero];rfl)
    case init16=>
     intro e v he;exact J7.init he
    case steps16=>
     refine zl.cons rfl (fun e v W K D hW he G E=>?_) ?_
     ·simp only [zc] at G E⊢;have hE:=D.ext (D.n17 (D.n15 (D.n12 he)));have n3:=rup W hE;go_simp;exact E.out _ up _ (by rfl) hW (D.s11)
     refine zl.cons rfl (fun e v W K D hW he G E=>?_) ?_
     ·simp only [zc] at G E⊢;have b8:e 11=true:=zC G [11] (by kernel_rfl) 11 (by simp);have U:=D.n15 he;have O:=D.n17 U;have hE:=D.ext O;have e3:=D.l b8;go_simp;go_at_call 92;refine (cloneI_calls _ (m6.out.below (b5.trans hE)) (by omega)).mono ?_;rintro e9 w9 ⟨v9,rfl,hM⟩;exact E.out _ v9 _ (by simp [Act.put,e3]) ⟨hW.1.trans hM.ext,hM.ext.cell hW.2⟩ (D.s12 O U b8 hM.ext (hM.own.mono hE.size))
     refine zl.cons rfl (fun e v W K D hW he G E=>?_) ?_
     ·simp only [zc] at G E⊢;have U:=D.n15' he;have O:=D.n17 U;go_simp;exact E.out _ _ _ (by rfl) ⟨hW.1.alloc _,((za.refl W).alloc _).cell hW.2⟩ (D.s14 O U ((za.refl W).alloc _) (zy _ _ _ rfl))
     refine zl.cons rfl (fun e v W K D hW he G E=>?_) ?_
     ·simp only [zc] at G E⊢;have g6:e 12=true:=zC G [12] (by kernel_rfl) 12 (by simp);have j4:e 14=true:=zC G [14] (by kernel_rfl) 14 (by simp);have O:=D.n17 he;obtain ⟨gb,l6,k6⟩:=D.b j4 he;have hE:=D.ext O;rw [if_pos (by rfl)];refine Dg (ok:=fun _=>True) W _ _ (by rfl) wt.heap.size p [n] (v 12) (v 14) (by rfl) (by rfl) (D.c g6 he) (by rw [l6];exact CB k6) hE.size (by simp;omega) ?_;intro v9 w9 ho hg _;have a3:za wt w9:=zK hE hg hE.size (fun k hk=>Ad (D.c g6 he) hk);exact E.out _ v9 _ (by rfl) ⟨b5.trans a3,a3.cell a8⟩ (D.s15 O g6 j4 a3 ho)
     refine zl.cons rfl (fun e v W K D hW he G E=>?_) ?_
     ·simp only [zc] at G E⊢;go_simp;exact E.out _ _ _ (by rfl) hW D.s16
     refine zl.cons rfl (fun e v W K D hW he G E=>?_) ?_
     ·simp only [zc] at G E⊢;have U:e 15=true:=zC G [15] (by kernel_rfl) 15 (by simp);have b9:e 16=true:=zC G [16] (by kernel_rfl) 16 (by simp);have hE:=D.ext he;have j6:=D.ap U he;obtain ⟨A9,c9,e4,_⟩:=Bl j6;rw [show (p++[n]).length=p.length+1 from by simp] at e4;have e5:=D.ix b9;have n3:=rup W hE;have s2:W.frozen? ⟨b2,k,none⟩=false:=(hE.frozen (p:=⟨b2,k,none⟩) a5).trans hfz;have HJ:=zh (D.s17 (x:=undef) he U b9 rfl);have HE:=zh (show za w (W.setCell ⟨b2,k,none⟩ (v 15))/\(W.setCell ⟨b2,k,none⟩ (v 15)).cell? ⟨gs,7,none⟩=some (.slice (some ⟨b2,0,none⟩) vs.length cp2) from ⟨(b5.trans hE).setCell h6 _,(zaa (w:=W) (FH W _ _ gs (fun e=>k9 e))).trans hW.2⟩);rw [e4] at HJ HE;go_simp;exact E.out _ undef _ (by simp [Act.put,e4,e5]) HE.out HJ.out
     exact zl.nil
    case fin16=>
     intro v W D hW;obtain ⟨W9,a3,j7,g9⟩:=D.st rfl;generalize v 15=x15 at*;have d6:=zh ((I.out.keep a3).store (k:=k) (x:=x15) h6);have c7:Hid (∀(i:Nat) (x:List Int),(ps.set k (p++[n]))[i]?=some x->∃u,(vs.set k x15)[i]?=some u/\zg W (fun b=>(ok b/\b<w.heap.size)\/wt.heap.size<=b) u x):=by rw [g9];exact paths_set g3.out a1.out I.out a3 h6 a5 (by omega) (AS.of_own j7)
     rw [<-g9] at d6;clear D j7 g9 I a8 rup a3;have I:=d6;clear d6;have d7:CF ps n=ps.set k (p++[n]):=by unfold CF;rw [show ps.length - 1=k from by have:=a1.out;have:=m7.out;omega,m5.out];simp [i3]
     rw [<-d7] at c7;have o9:=zh d7;clear d7;have e7:Hid ((vs.set k x15).length=(CF ps n).length):=by have:=a1.out;show _=_;unfold CF;simp;omega
     have m1:Hid ((vs.set k x15).length=vs.length):=by show _=_;simp
     have h5:Hid ((CF ps n).length=ps.length):=by show _=_;unfold CF;simp
     generalize vs.set k x15=vs1 at*;have f9:Hid (∀b,((ok b/\b<w.heap.size)\/wt.heap.size<=b)->ok b\/w.heap.size<=b):=fun b hb=>by rcases hb with h | h;exact .inl h.1;exact .inr (FA b5.size h)
     have a4:=zh (WO.st2 HS.out.maze I.out e7.out c7.out f9.out);have i9:=I.out.ext;have l9:Hid (b2<wt.heap.size):=a5;have i1:Hid (gs<wt.heap.size):=f1;have f7:0<(CF ps n).length:=by have:=h5.out;omega
     have a8:W.cell? ⟨gs,7,none⟩=some (.slice (some ⟨b2,0,none⟩) vs.length cp2):=I.out.blk.cell rfl;have p7:=r5 W i9;obtain ⟨b,hb⟩:=zaI (finB m (CF ps n));have HB:=zh hb;clear hb;have k8:∀q:Nat,Calls Tryz.prog 204 #[.pointer (some ⟨gs,0,none⟩)] (W.drewN q) fun e w'=>e=.returned (.bool b)/\zT (W.drewN q) w':=fun q=>by rw [HB.out];exact EY _ (a4.out.ext ((za.refl W).drewN q)) SO1.out f7
     have g4:=zh k8;clear k8;clear f7
     cases b with
     | false=>
      have a0:Ch m ps n=CF ps n:=by unfold Ch;rw [if_neg (fun h=>by rw [<-HB.out] at h;cases h.1)]
      have b7:=zh a0;clear a0
      go_wp2_with fail
      go_quiet ((go_at_call 204;refine (g4.out _).mono ?_;rintro e w9 ⟨V,nd,rfl⟩;exact ⟨V,⟨_,World.drewN_drewN _ _ _⟩⟩))
      go_wp2_with fail
      go_ret;exact ⟨_,rfl,i9.drewN _,us2,d9.out,gs,_,_,_,_,_,gm,rfl,by rw [b7.out];exact a4.out.ext ((za.refl W).drewN _)⟩
     | true=>
      by_cases i4:vs.length<m.tasks.length
      ·have a0:Ch m ps n=CF ps n++[[]]:=by unfold Ch;rw [if_pos ⟨HB.out.symm,by have:=a1.out;omega⟩]
       have b7:=zh a0;clear a0;have G:decide ((vs.length:Int)<(m.tasks.length:Int))=true:=FB (by omega)
       go_wp2_with fail
       go_quiet ((go_at_call 204;refine (g4.out _).mono ?_;rintro e w9 ⟨V,nd,rfl⟩;exact ⟨V,⟨_,World.drewN_drewN _ _ _⟩⟩))
       generalize j9:W.drewN nq=W4;have g8:za W W4:=by rw [<-j9];exact (za.refl W).drewN _
       clear j9;have a7:=zh (I.out.keep g8);have M:=zh (a7.out.keep ((za.refl W4).alloc (.cells #[.slice none 0 0] 23)));have t2:=a7.out.ext;have q8:W4.cell? ⟨gs,7,none⟩=some (.slice (some ⟨b2,0,none⟩) vs.length cp2):=a7.out.blk.cell rfl;have o8:w.heap.size<=(W4.alloc (.cells #[.slice none 0 0] 23)).heap.size:=M.out.ext.size;have t1:vs1.length<=6:=by have:=m1.out;omega
       go_wp2_with (at_builtin;refine BD (ok:=fun _=>True) rfl _ _ _ rfl w.heap.size vs1 [.slice none 0 0] _ _ rfl rfl M.out.ps (row_nil1 (g:=W4.heap.size) (zy _ _ _ rfl) trivial) (by simp [Value.oneCell']) o8 (by simp;omega) ?_)
       intro v' w6 i6 f0 _;have d5:=zh (M.out.app i6 f0.out);have h7:ze w6 gs 207 _:=(f0.out.block gs (zd M.out.blk) (fun e=>Dk M.out.blk M.out.ps (by decide) e.symm)).trans M.out.blk;have q9:=h7.cell (k:=7) rfl;have s1:=h7.frozen 7
       have c8:Hid (Ao (fun b=>(ok b/\b<w.heap.size)\/wt.heap.size<=b) W (w6.setCell ⟨gs,7,none⟩ v')):=fun b hb i4=>by
        have l3:b≠gs/\b≠b2:=by
         have h1:=I.out.hs;have h2:=i1.out;have h3:=l9.out;rcases hb with h | h <;> omega
        rw [FH w6 ⟨gs,7,none⟩ v' b l3.1,f0.out.block b (zam i4 (g8.trans ((za.refl W4).alloc _)).size) (fun e=>l3.2 (by have e':some b=some b2:=e;injection e'))];exact (g8.trans ((za.refl W4).alloc (.cells #[.slice none 0 0] 23))).block b i4
       have f4:=zh (paths_app c7.out e7.out c8.out);have f6:=zh (WO.st2 HS.out.maze d5.out (by have:=e7.out;simp;omega) f4.out f9.out);obtain ⟨A6,c6,l8,_⟩:=AS.of_own i6;subst l8;have l2:(vs1++[Value.slice none 0 0]).length=vs1.length+1:=by simp
       rw [l2] at d5 f6;clear l2;clear i6 f0 h7 c8 f4 M a7 a4
       go_wp2_with fail
       go_ret;exact ⟨_,rfl,d5.out.ext,us2,d9.out,gs,_,_,_,_,_,gm,rfl,by rw [b7.out];exact f6.out⟩
      ·have a0:Ch m ps n=CF ps n:=by unfold Ch;rw [if_neg (fun h=>by have:=h.2;have:=a1.out;omega)]
       have b7:=zh a0;clear a0;have G:decide ((vs.length:Int)<(m.tasks.length:Int))=false:=FC (by omega)
       go_wp2_with fail
       go_quiet ((go_at_call 204;refine (g4.out _).mono ?_;rintro e w9 ⟨V,nd,rfl⟩;exact ⟨V,⟨_,World.drewN_drewN _ _ _⟩⟩))
       go_wp2_with fail
       go_ret;exact ⟨_,rfl,i9.drewN _,us2,d9.out,gs,_,_,_,_,_,gm,rfl,by rw [b7.out];exact a4.out.ext ((za.refl W).drewN _)⟩
   ·obtain ⟨Q,a9,a6⟩:=hR.out.step (i:=i) n7 h5;generalize setBlock w1 r (.mapIter (some gu) us.length (seen.push i) us.length)=W2 at*;have o7:=Q.ext;have n4:W2.cell? ⟨gs,8,none⟩=some (.map (some gm)):=Q.blk.cell rfl
    go_wp2_with (at_mapUpdate;refine wpSetAdd rfl _ _ _ _ rfl Tryz.underlying205 gm us2 us[i] rfl rfl rfl Q.set ?_)
    intro w9 e0 b4;have n2:Hid (RW w w9 m (ch++[n]) vs f u (.slice At m.tasks.length ct) gs gm v1 v2 (ins us2 us[i]) r gu us n (seen.push i) us.length):=⟨Q.add e0 b4,(b4.block r (zd a9) (fun e=>by injection e with e;exact iter_ne a9 Q.set (fun _ _ _ _ h=>by cases h) e.symm)).trans a9,hR.out.hr,Fy _,(b4.block gu (zd a6) (fun e=>by injection e with e;have:=Q.hm;omega)).trans a6,fun x=>by rw [mem_ins,hR.out.mem];exact mem_step hi⟩;clear e0 b4 Q a9 a6 o7 n4 hR i5 n5
    go_wp2_with fail
    go_roundg (leftN us.length (seen.push i))
    case measure=>exact leftN_step hi n9
    case rel=>exact ⟨_,_,_,rfl,n2⟩
end
end Go.Proofs.YtjomnbdjajjgfaaGreatDoor
