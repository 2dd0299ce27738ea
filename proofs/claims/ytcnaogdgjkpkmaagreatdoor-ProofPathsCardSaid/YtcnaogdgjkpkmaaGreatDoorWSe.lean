import Derived.Test.YtcnaogdgjkpkmaaGreatDoorWSd
import Derived.RangeFuncNested
import Derived.RangeFuncBound
import Derived.RangeFuncCalls
import Derived.RangeFuncLeaves
import Derived.RangeFuncBox
import Derived.Shelf.Abstract
import Derived.Maps.AppendAt
import Derived.RangeFuncWrites
import Derived.Shelf.RegionOpen
import Derived.OwnWalkIn
import Derived.TacticsInMore
import Derived.LoopNIn
import Derived.LoopIn
import Derived.Deep.RegionHeld
import Derived.CallsIn
import Derived.OrdersIn
set_option linter.unusedVariables false
set_option linter.unusedSimpArgs false
set_option maxRecDepth 100000
set_option maxHeartbeats 16000000
namespace Go.Proofs.YtcnaogdgjkpkmaaGreatDoor
variable {a a0:Act} {K:Act->World->Prop} {listed:Array Bool} {ps:List (List Int)} {ch l us:List Int} {js:List Nat} {m:MZ} {fuel g g1 g2 gu:Nat} {ok:Nat->Prop} {o:Oper} {f ts u v vc vp:Value} {w:World}
section
open Go.RowKit Go.Shelf
attribute [local go_sem] Oper.semAt_some
theorem values1_in (F:Fence) (n:Nat) (h7:F.fn 142) (V:F.round=none) (hn:1<=n) (l Bs n₀:Nat) (A:Option Addr) (cap:Nat) (zs:List Int) (a3:zs.length<=1000000000000) (J Jx:List Int->World->Prop)
  (hY:∀pre x W,J pre W->pre.length<zs.length->YieldAt F (n - 1) Tryz.prog l #[.int .i64 x] W fun e W'=>
   (e=.returned (.bool true)/\J (pre++[x]) W'/\Below n₀ W W')\/(e=.returned (.bool false)/\Jx (pre++[x]) W'))
  (W:World) (a8:W.cell? ⟨Bs,0,none⟩=some (.slice A zs.length cap)) (hc:∀(j:Nat) (hj:j<zs.length),∃b off,A=some ⟨b,off,none⟩/\b<n₀/\W.cell? ⟨b,off+j,none⟩=some (.int .i64 (zs[j]))) (h0:J [] W):
  CallsIn F n Tryz.prog 142 #[.func (.yield l) #[] #[],.pointer (some ⟨Bs,0,none⟩)] W fun e W'=>(∃v,e=.returned v)/\
   ((∃ys,ys=zs/\J ys W')\/(∃pre,pre <+: zs/\Jx pre W')):=by
 have HC:=zh hc;clear hc;refine callsIn_of_wp Tryz.func142 rfl h7 ?_ V;simp only [Tryz.ntmps142,List.size_toArray,EF,EG,Nat.reduceAdd,Nat.reduceSub,Array.replicate_succ,Array.replicate_zero,List.push_toArray,List.append_toArray,List.nil_append,List.cons_append]
 gi_wp2
 gi_loopw [7] (fun i wr=>∃k:Nat,k<=zs.length/\i=.int .i64 k/\Hid (J (zs.take k) wr)/\Hid (Below n₀ W wr))
  (fun i _=>zs.length - (intOf i).toNat)
 case atStart=>exact ⟨0,DR _,rfl,h0,Below.refl _ _⟩
 case round=>
  obtain ⟨k,hk,rfl,G,M⟩:=hrel;by_cases L:k<zs.length
  ·obtain ⟨b,off,rfl,hb,r⟩:=HC.out k L;have U:wr.cell? ⟨b,off+k,none⟩=some (.int .i64 (zs[k])):=(M.out.cell (p:=⟨b,off+k,none⟩) hb).trans r;clear r;have D:=zh (DJ L);obtain ⟨x,hx⟩:=EH (zs[k]);rw [<-hx] at U D;clear hx;obtain ⟨fn,tmps,assign,body,hy,hR⟩:=hY _ x wr G.out (by simp;omega);have HR:=zh hR;clear hR
   gi_wp2
   refine HR.out.mono ?_;rintro e W3 (⟨rfl,E,I⟩ | ⟨rfl,d⟩)
   ·have B:=zh E;clear E;have O:=zh I;clear I
    gi_wp2
    go_roundw
    case rel=>exact ⟨k+1,by omega,by go_num,by rw [D.out];exact B,M.out.trans O.out⟩
    case measure=>simp [intOf];omega
   ·have B:=zh d;clear d
    gi_wp2
    refine Eu (results_none rfl _ _ _) rfl ?_;exact ⟨⟨_,rfl⟩,.inr ⟨_,List.take_prefix (k+1) zs,by rw [D.out];exact B.out⟩⟩
  ·obtain rfl:k=zs.length:=by omega
   gi_wp2
   go_end0
   exact ⟨⟨_,rfl⟩,.inl ⟨_,rfl,by have:=G.out;rwa [DN] at this⟩⟩
theorem values_stops (Bs n₀ n:Nat) (U:1<=n) (w:World) (D:Bs<w.heap.size) (hn₀:n₀<=w.heap.size) (O:w.cell? ⟨Bs,0,none⟩=some v) (h:zn w ok v l) (E:∀b,ok b->b<w.heap.size->b<n₀) (r:l.length<=1000000000000):
  SeqStopsK Fence.wide n Tryz.prog 142 #[.pointer (some ⟨Bs,0,none⟩)] (fun x:Int=>#[Value.int .i64 x]) (Below n₀) (fun ys=>ys=l) (fun pre=>pre <+: l) l.length w:=fun lb J Jx W hW _ _ L h0=>by
 obtain ⟨A,cap,rfl,G,V⟩:=h;refine values1_in Fence.wide n trivial rfl U lb Bs n₀ A cap l r J Jx L W ((hW.cell (p:=⟨Bs,0,none⟩) D).trans O) (fun j I=>?_) h0;obtain ⟨b,off,e,M,d⟩:=Ae V I I;have B:=zp d;exact ⟨b,off,e,E b M B,(hW.cell (p:=⟨b,off+j,none⟩) B).trans d⟩
theorem zn.bound (h:zn w ok v l):zn w (fun b=>ok b/\b<w.heap.size) v l:=by
 obtain ⟨A,c,e,E,G,d⟩:=h;refine ⟨A,c,e,E,G,fun B=>?_⟩;obtain ⟨b,off,e',D,r⟩:=d B;have h0:0<(l.map (Value.int .i64)).length:=by simpa using B
 exact ⟨b,off,e',⟨D,zp (r 0 _ (DA h0))⟩,r⟩
theorem appendSeq_calls (Bs:Nat) (w:World) (O:w.cell? ⟨Bs,0,none⟩=some v) (h:zn w ok v l) (L:l.length<=1000000000000):
  Calls Tryz.prog 154 #[.slice none 0 0,.func (.func 142) #[] #[.pointer (some ⟨Bs,0,none⟩)]] w fun e w'=>∃v',e=.returned v'/\Mk w w' v' l:=by
 refine (callsIn_wide (n:=6)).1 ?_;obtain ⟨i0,hi,a3,a4,a5⟩:=info_parts Tryz.infoInt;have HI:=zh h;clear h;have a7:=zp O;refine callsIn_of_wp_marks Tryz.func154 rfl trivial ?_ rfl;simp only [Tryz.ntmps154,List.size_toArray,EF,EG,Nat.reduceAdd,Nat.reduceSub,Array.replicate_succ,Array.replicate_zero,List.push_toArray,List.append_toArray,List.nil_append,List.cons_append]
 gi_wp2
 have bO:=Boxed.new w 24 (.slice none 0 0);have G:Below w.heap.size w (w.alloc (.cells #[.slice none 0 0] 24)):=(Below.refl _ w).alloc (DC _) _
 refine wpIn_rangeFunc_ownG (F:=Fence.wide) rfl (by omega) (gf:=142) (lb:=#[.pointer (some ⟨Bs,0,none⟩)]) rfl trivial (enters_of Tryz.func142 (by kernel_rfl) rfl)
  (values_stops (ok:=fun b=>ok b/\b<w.heap.size) Bs w.heap.size _ (by omega) _ (by simp;omega) (by simp) ((zc.refl w).alloc _ |>.cell O) (HI.out.bound.below G) (fun b hb _=>hb.2) L) belowK_t (belowK_b (by simp)) (Below.refl _ _) (fun _=>rfl)
  (fun pre W=>(∃v,Boxed W w.heap.size 24 v/\W.ownsRow w.heap.size 3 1 v pre.length (pre.map (Value.int .i64))/\True)/\Below w.heap.size w W)
  (fun _ _ _=>False)
  (OwnFrom.and (Own.from (holdsRow_own w.heap.size w.heap.size 24 3 1 (fun pre:List Int=>pre.length) (fun pre:List Int=>pre.map (Value.int .i64)) (fun pre v=>True)) _) (ownFrom_below (DC _) (by simp)))
  (fun _ _ _ _ _ hs _ _=>hs)
  ⟨⟨_,bO,World.ownsRow_nil _ _ _ _,trivial⟩,G⟩
  (fun x=>{ tmps:=#[.slice none 0 0,.func (.func 142) #[] #[.pointer (some ⟨Bs,0,none⟩)],.pointer (some ⟨w.heap.size,0,none⟩),undef,.slice none 0 0,.int .i64 x,.func (.func 142) #[] #[.pointer (some ⟨Bs,0,none⟩)],.int .i64 x,undef,undef,undef,undef,undef],defers:=[] }) ?assign ?body ?done ?stop
 case assign=>
  intro l x W K I
  gi_wp2
  exact I
 case body=>
  rintro lb pre x W ⟨⟨v,U,d,_⟩,E⟩ b3;have O:=U.cell
  gi_wp2_with (gi_at_builtin;refine wpListIn_append_own _ rfl _ _ 24 rfl w.heap.size 3 i0 (.int .i64 0) 1 8 Tryz.underlying24 hi a3 a4 a5 rfl (by decide) _ _ _ rfl (d.alloc _) ⟨W.heap.size,0,none⟩ 1 1 [.int .i64 x] rfl rfl (cell_one_new _ _ _) (by simp [Value.oneCell']) (by unfold maxLen;omega) (by omega) (by have:=E.size;simp;omega) ?_;intro v' w1 r B _;obtain ⟨g',cap',rfl⟩:=ownsRow_succ r;obtain ⟨M,a2,a1,V,J⟩:=U.appended (by decide) d E.size (DC _) r B;have b0:=M.cell;have b1:=M.frozen)
  exact ⟨V.from _,J,⟨_,a2,by simpa using a1,trivial⟩,E.trans J⟩
 case done=>
  rintro D ys W hD rfl ⟨⟨v,U,d,_⟩,E⟩ I;have O:=U.cell
  gi_wp2
  refine ⟨by simp,.inl ⟨_,_,rfl,run_takeDeferred I,?_⟩⟩;exact ⟨_,results_tmp rfl _ _ _,v,rfl,ownsRow_putObj d _ I rfl,E.trans (belowK_b (w:=w) (DC _) W D _ _ (by simp at hD;omega) I rfl rfl)⟩
 case stop=>
  rintro D c pre W _ _ h _;exact h.elim
end
section
open Go.RowKit
section
variable {P:Program} {ops:Array Oper} {Q:Exit->Act->World->Prop} {md:Region.Mode} {S:World->Prop}
def Bt (ops:Array Oper) (j:Nat):Option Tmp:=(ops[j]?).bind (·.dst)
def zE (ops:Array Oper) (v:Nat->Value):List Nat->Act->Act
 | [],a=>a
 | j :: js,a=>zE ops v js (a.put (Bt ops j) (v j))
def zV {α:Type} (f:Nat->α) (j:Nat) (x:α):Nat->α:=fun k=>if k=j then x else f k
theorem Bh {α:Type} (f:Nat->α) (j:Nat) (x:α):zV f j x j=x:=by simp [zV]
theorem Az {α:Type} (f:Nat->α) {j k:Nat} (x:α) (h:k≠j):zV f j x k=f k:=by simp [zV,h]
theorem put_put (a:Act) (d:Option Tmp) (x y:Value):(a.put d x).put d y=a.put d y:=by
 cases d with
 | none=>rfl
 | some d=>simp [Act.put]
theorem put_comm (a:Act) {d d':Option Tmp} (x y:Value) (h:d=d'->d=none):(a.put d x).put d' y=(a.put d' y).put d x:=by
 cases d with
 | none=>rfl
 | some d=>
  cases d' with
  | none=>rfl
  | some d'=>
   have r:d≠d':=fun e=>by subst e;exact absurd (h rfl) (by simp)
   simp only [Act.put];rw [Array.setIfInBounds_comm _ _ r]
theorem putAll_put (v:Nat->Value) (d:Option Tmp) (x:Value):∀(js:List Nat) (a:Act),(∀k∈js,Bt ops k=d->d=none)->(zE ops v js a).put d x=zE ops v js (a.put d x)
 | [],_,_=>rfl
 | k :: js,a,h=>by
  simp only [zE];rw [putAll_put v d x js _ (fun k' r=>h k' (DX _ r)),put_comm a _ _ (fun e=>by rw [e];exact h k (En ..) e)]
theorem putAll_upd (v:Nat->Value) (j:Nat) (x:Value):∀(js:List Nat) (a:Act),j∉js->zE ops (zV v j x) js a=zE ops v js a
 | [],_,_=>rfl
 | k :: js,a,h=>by
  simp only [zE];rw [Az v x (fun e=>h (by simp [e])),putAll_upd v j x js _ (fun d=>h (DX _ d))]
def Dist (ops:Array Oper) (js:List Nat):Prop:=∀j∈js,∀k∈js,j≠k->Bt ops j=Bt ops k->Bt ops k=none
theorem putAll_set (v:Nat->Value) (j:Nat) (x:Value):∀(js:List Nat) (a:Act),js.Nodup->Dist ops js->j∈js->(zE ops v js a).put (Bt ops j) x=zE ops (zV v j x) js a
 | [],_,_,_,h=>by cases h
 | k :: js,a,J,B,h=>by
  obtain ⟨D,r⟩:=List.nodup_cons.1 J;simp only [zE];by_cases e:j=k
  ·subst e;rw [Bh,putAll_upd v j x js _ D,putAll_put v _ x js _ (fun k' d he=>B k' (DX _ d) j (En ..) (fun e=>D (e ▸ d)) he),put_put]
  ·have I:j∈js:=by
    rcases Ep.1 h with h | h
    ·exact absurd h e
    ·exact h
   rw [Az v x (fun h=>e h.symm)];exact putAll_set v j x js _ r (fun a E b G=>B a (DX _ E) b (DX _ G)) I
theorem put_self (a:Act) (d:Option Tmp):∃x,a.put d x=a:=by
 cases d with
 | none=>exact ⟨undef,rfl⟩
 | some d=>
  refine ⟨a.tmps.getD d undef,?_⟩;obtain ⟨t,ds⟩:=a;simp only [Act.put,Act.mk.injEq,and_true];apply Array.ext_getElem?;intro i;rw [Array.getElem?_setIfInBounds]
  split
  ·rename_i h
   subst h
   split
   ·rename_i h;simp [Array.getD,h]
   ·rename_i h;rw [Array.getElem?_eq_none (by omega)]
  ·rfl
theorem Dr (a:Act):∀(js:List Nat),js.Nodup->∃v,zE ops v js a=a
 | [],_=>⟨fun _=>undef,rfl⟩
 | j :: js,h=>by
  obtain ⟨d,r⟩:=List.nodup_cons.1 h;obtain ⟨v,B⟩:=Dr a js r;obtain ⟨x,D⟩:=put_self a (Bt ops j);refine ⟨zV v j x,?_⟩;simp only [zE];rw [Bh,putAll_upd v j x js _ d,D,B]
def BY (md:Region.Mode) (ops:Array Oper) (js:List Nat):Bool:=
 ((List.range ops.size).all fun j=>match ops[j]? with | none=>false | some o=>o.after.toList.all fun e=>!Region.binds md e || decide (e.on<j)) &&
 decide js.Nodup && (js.all fun j=>decide (j<ops.size)) && (js.all fun j=>js.all fun k=>decide (j=k) || !(decide (Bt ops j=Bt ops k)) || decide (Bt ops k=none))
def leftB (ops:Array Oper) (listed:Array Bool) (js:List Nat):Bool:=decide (listed.size=ops.size) && (List.range listed.size).all fun k=>listed.getD k true || decide (k∈js)
def StepTo (ops:Array Oper) (S:World->Prop) (J:(Nat->Bool)->(Nat->Value)->World->Prop) (js:List Nat) (a0:Act) (j:Nat) (e:Nat->Bool) (v:Nat->Value) (K:Act->World->Prop):Prop:=
 ∀a' x w',(zE ops v js a0).put (Bt ops j) x=a'->S w'->J (zV e j true) (zV v j x) w'->K a' w'
theorem wpAnyH_inv {J:(Nat->Bool)->(Nat->Value)->World->Prop} (hB:BY md ops js=true)
  (step:∀j∈js,∀e v w,J e v w->S w->e j=false->(∀o,ops[j]?=some o->∀d∈o.after,Region.binds md d=true->e d.on=true)->∀o,ops[j]?=some o->∀K:Act->World->Prop,Hid (StepTo ops S J js a0 j e v K)->
   if Region.wanted o (yielded ops (zE ops v js a0).tmps)=true then Oper.wp P o (zE ops v js a0) w K Q else K ((zE ops v js a0).put o.dst undef) w)
  (fin:∀v w,J (fun _=>true) v w->S w->Q .normal (zE ops v js a0) w):
  ∀(fuel:Nat) (listed:Array Bool) (v:Nat->Value) (w:World),listed.size=ops.size->(∀k,listed.getD k true=false->k∈js)->(js.filter fun k=>!listed.getD k true).length<=fuel->S w->J (fun k=>listed.getD k true) v w->
   wpAnyH P md ops Q S fuel listed (zE ops v js a0) w:=by
 unfold BY at hB;simp only [DO,ED,DM,EB,Bool.not_eq_true',Ea] at hB;obtain ⟨⟨⟨h1,h2⟩,h3⟩,h4⟩:=hB
 have hD:Dist ops js:=fun j hj k I b4 he=>by
  rcases h4 j hj k I with (h | h) | h
  ·exact absurd h b4
  ·exact absurd he h
  ·exact h
 have U:∀listed:Array Bool,(∀k,listed.getD k true=true)->(fun k=>listed.getD k true)=fun _=>true:=fun listed h=>funext h
 have M:∀listed:Array Bool,listed.size=ops.size->(∀k,listed.getD k true=false->k∈js)->Region.ready md ops listed=[]->∀k,listed.getD k true=true:=by
  intro listed O r hr
  have I:∀n k,k<n->listed.getD k true=true:=by
   intro n
   induction n with
   | zero=>intro k h;omega
   | succ n ih=>
    intro k d6
    cases hv:listed.getD k true with
    | true=>rfl
    | false=>
     exfalso
     have E:=h3 k (r k hv)
     have V:k∈Region.ready md ops listed:=mem_ready.2 ⟨hv,ops[k],Array.getElem?_eq_getElem E,fun e he hb=>by
      have:=h1 k (Ez.2 E);rw [Array.getElem?_eq_getElem E] at this;have h5:=(ED.1 this) e (by simpa using he);simp only [EB,Bool.not_eq_true',DM] at h5
      have h6:e.on<k:=by
       rcases h5 with h5 | h5
       ·rw [hb] at h5;cases h5
       ·exact h5
      have h7:=ih e.on (by omega);have h8:e.on<listed.size:=by omega
      simp only [Array.getD,h8,dif_pos] at h7⊢;exact h7⟩
     rw [hr] at V;cases V
  exact fun k=>I (k+1) k (by omega)
 intro fuel
 induction fuel with
 | zero=>
  intro listed v w O r hc hS hJ
  have hf:∀k,listed.getD k true=true:=fun k=>by
   cases hv:listed.getD k true with
   | true=>rfl
   | false=>
    exfalso
    have:k∈js.filter fun k=>!listed.getD k true:=Ex.2 ⟨r k hv,by rw [hv];rfl⟩
    rw [DU (Nat.le_zero.1 hc)] at this;cases this
  refine ⟨?_,fin v w (by rw [<-U listed hf];exact hJ) hS⟩;apply List.eq_nil_iff_forall_not_mem.2;intro j hj;have:=(mem_ready.1 hj).1;rw [hf j] at this;cases this
 | succ fuel ih=>
  intro listed v w O r hc hS hJ;refine ⟨fun hr=>fin v w (by rw [<-U listed (M listed O r hr)];exact hJ) hS,fun i hi=>?_⟩;obtain ⟨a2,o,ho,a1⟩:=mem_ready.1 hi;have D:=r i a2;refine wpOp_step ho fun K' hK=>?_
  have E:i<listed.size:=by have:=h3 i D;omega
  refine step i D (fun k=>listed.getD k true) v w hJ hS a2 (fun o' L d hd hb=>?_) o ho K' fun a' x w' ha a5 a4=>?_
  ·rw [ho] at L;injection L with L;subst L;have h9:=a1 d hd hb;by_cases a3:d.on<listed.size
   ·simp only [Array.getD,a3,dif_pos] at h9⊢;exact h9
   ·simp only [Array.getD,a3,dif_neg,not_false_eq_true] at h9;cases h9
  ·refine hK _ _ ⟨a5,?_⟩
   have G:zV (fun k=>listed.getD k true) i true=fun k=>(listed.setIfInBounds i true).getD k true:=by
    funext k;by_cases I:k=i
    ·subst I;rw [Bh];simp [Array.getD,E]
    ·rw [Az _ _ I];simp only [Array.getD,Array.size_setIfInBounds]
     split
     ·rename_i h
      show listed[k]=(listed.setIfInBounds i true)[k]'(by simpa using h);rw [Array.getElem_setIfInBounds,if_neg (Ne.symm I)]
     ·rfl
   rw [G] at a4;rw [<-ha,putAll_set v i x js a0 h2 hD D];refine ih (listed.setIfInBounds i true) (zV v i x) w' (by simpa using O) (fun k I=>?_) ?_ a5 a4
   ·by_cases B:k=i
    ·rw [B];exact D
    ·have:=congrFun G k;rw [Az _ _ B] at this;exact r k (this.trans I)
   ·have b2:(js.filter fun k=>!(listed.setIfInBounds i true).getD k true)=(js.filter fun k=>!listed.getD k true).erase i:=by
     rw [List.Nodup.erase_eq_filter (h2.filter _),List.filter_filter];apply List.filter_congr;intro k I;have:=congrFun G k;rw [<-this];by_cases B:k=i
     ·subst B;simp [Bh]
     ·rw [Az _ _ B];simp [B]
    rw [b2,List.length_erase_of_mem (Ex.2 ⟨D,by show (!listed.getD i true)=true;rw [a2];rfl⟩)];omega
theorem wpAnyH_by_inv (js:List Nat) (J:(Nat->Bool)->(Nat->Value)->World->Prop) (B:BY md ops js=true) (hL:leftB ops listed js=true) (hf:js.length<=fuel) (G:S w)
  (init:∀e v,(∀j∈js,e j=false)->J e v w)
  (D:(js.all fun j=>!listed.getD j true)=true)
  (step:∀j∈js,∀e v w,J e v w->S w->e j=false->(∀o,ops[j]?=some o->∀d∈o.after,Region.binds md d=true->e d.on=true)->∀o,ops[j]?=some o->∀K:Act->World->Prop,Hid (StepTo ops S J js a0 j e v K)->
   if Region.wanted o (yielded ops (zE ops v js a0).tmps)=true then Oper.wp P o (zE ops v js a0) w K Q else K ((zE ops v js a0).put o.dst undef) w)
  (fin:∀v w,J (fun _=>true) v w->S w->Q .normal (zE ops v js a0) w):wpAnyH P md ops Q S fuel listed a0 w:=by
 unfold leftB at hL;simp only [DO,ED,DM,EB] at hL
 have L:js.Nodup:=by
  unfold BY at B;simp only [DO,DM] at B;exact B.1.1.2
 obtain ⟨v,M⟩:=Dr (ops:=ops) a0 js L
 have h:=wpAnyH_inv B step fin fuel listed v w hL.1 (fun k E=>by
  by_cases r:k<listed.size
  ·rcases hL.2 k (Ez.2 r) with h | h
   ·rw [E] at h;cases h
   ·exact h
  ·simp [Array.getD,r] at E) (DE (Ef _ _) hf) G (init _ _ (fun j I=>by
   have:=ED.1 D j I;simpa using this))
 rwa [M] at h
end
def noDeferB (ops:Array Oper):Bool:=ops.toList.all fun o=>match o.op with | .defer _=>false | _=>true
theorem operIn_of {P:Program} {Q:Exit->Act->World->Prop} (l n:Nat) (B:∀c,o.op≠.defer c) (h:o.wp P a w K Q):o.wpIn (Fence.wide.inRound l) n P a w K Q:=by
 have d:(Fence.wide.inRound l).depth.isSome=true->1<=n:=fun h=>absurd h (by simp [Fence.wide])
 refine ⟨fun f _=>trivial,?_⟩;rw [Oper.semAt_eq _ _ _ B];unfold Oper.wp at h;generalize (execOp a.eval o).run P w=r at*
 cases r with
 | ok x w'=>
  cases x with
  | enter f args=>exact ⟨d,(CallsIn.inRound l (callsIn_wide.2 h)).mono (fun e w'' he=>by cases e <;> exact he)⟩
  | row row args=>exact ⟨d,fun c cs _=>let ⟨v,w'',r,s⟩:=h c cs;⟨v,w'',r,stepsIn_wide.2 s⟩⟩
  | _=>first | exact h | exact (h:False).elim
 | halt x w'=>cases x <;> exact h
section
variable {P:Program} {ops:Array Oper} {Q:Exit->Act->World->Prop} {md:Region.Mode} {S:World->Prop}
theorem wpOpIn_step (l n:Nat) (r:noDeferB ops=true) {i:Nat} (B:ops[i]?=some o)
  (h:∀K':Act->World->Prop,(∀a w,K a w->K' a w)->if Region.wanted o (yielded ops a.tmps)=true then Oper.wp P o a w K' Q else K' (a.put o.dst undef) w):wpOpIn (Fence.wide.inRound l) n P ops Q i K a w:=by
 have h1:=h K (fun _ _ h=>h);unfold wpOpIn;rw [B]
 have D:∀c,o.op≠.defer c:=by
  intro c e;have:=ED.1 r o (by simpa using Array.mem_of_getElem? B);rw [e] at this;cases this
 by_cases d:Region.wanted o (yielded ops a.tmps)=true
 ·rw [if_pos d] at h1;simp only [d,if_true];exact operIn_of l n D h1
 ·rw [if_neg d] at h1;simp only [d];exact ⟨fun f _=>trivial,h1⟩
theorem wpAnyIn_inv (l n:Nat) (a9:noDeferB ops=true) {J:(Nat->Bool)->(Nat->Value)->World->Prop} (hB:BY md ops js=true)
  (step:∀j∈js,∀e v w,J e v w->e j=false->(∀o,ops[j]?=some o->∀d∈o.after,Region.binds md d=true->e d.on=true)->∀o,ops[j]?=some o->∀K:Act->World->Prop,Hid (StepTo ops (fun _=>True) J js a0 j e v K)->
   if Region.wanted o (yielded ops (zE ops v js a0).tmps)=true then Oper.wp P o (zE ops v js a0) w K Q else K ((zE ops v js a0).put o.dst undef) w)
  (fin:∀v w,J (fun _=>true) v w->Q .normal (zE ops v js a0) w):
  ∀(fuel:Nat) (listed:Array Bool) (v:Nat->Value) (w:World),listed.size=ops.size->(∀k,listed.getD k true=false->k∈js)->(js.filter fun k=>!listed.getD k true).length<=fuel->J (fun k=>listed.getD k true) v w->
   wpAnyIn (Fence.wide.inRound l) n P md ops Q fuel listed (zE ops v js a0) w:=by
 unfold BY at hB;simp only [DO,ED,DM,EB,Bool.not_eq_true',Ea] at hB;obtain ⟨⟨⟨h1,h2⟩,h3⟩,h4⟩:=hB
 have hD:Dist ops js:=fun j hj k I b3 he=>by
  rcases h4 j hj k I with (h | h) | h
  ·exact absurd h b3
  ·exact absurd he h
  ·exact h
 have U:∀listed:Array Bool,(∀k,listed.getD k true=true)->(fun k=>listed.getD k true)=fun _=>true:=fun listed h=>funext h
 have M:∀listed:Array Bool,listed.size=ops.size->(∀k,listed.getD k true=false->k∈js)->Region.ready md ops listed=[]->∀k,listed.getD k true=true:=by
  intro listed O r hr
  have I:∀n k,k<n->listed.getD k true=true:=by
   intro n
   induction n with
   | zero=>intro k h;omega
   | succ n ih=>
    intro k d6
    cases hv:listed.getD k true with
    | true=>rfl
    | false=>
     exfalso
     have E:=h3 k (r k hv)
     have V:k∈Region.ready md ops listed:=mem_ready.2 ⟨hv,ops[k],Array.getElem?_eq_getElem E,fun e he hb=>by
      have:=h1 k (Ez.2 E);rw [Array.getElem?_eq_getElem E] at this;have h5:=(ED.1 this) e (by simpa using he);simp only [EB,Bool.not_eq_true',DM] at h5
      have h6:e.on<k:=by
       rcases h5 with h5 | h5
       ·rw [hb] at h5;cases h5
       ·exact h5
      have h7:=ih e.on (by omega);have h8:e.on<listed.size:=by omega
      simp only [Array.getD,h8,dif_pos] at h7⊢;exact h7⟩
     rw [hr] at V;cases V
  exact fun k=>I (k+1) k (by omega)
 intro fuel
 induction fuel with
 | zero=>
  intro listed v w O r hc hJ
  have hf:∀k,listed.getD k true=true:=fun k=>by
   cases hv:listed.getD k true with
   | true=>rfl
   | false=>
    exfalso
    have:k∈js.filter fun k=>!listed.getD k true:=Ex.2 ⟨r k hv,by rw [hv];rfl⟩
    rw [DU (Nat.le_zero.1 hc)] at this;cases this
  refine ⟨?_,fin v w (by rw [<-U listed hf];exact hJ)⟩;apply List.eq_nil_iff_forall_not_mem.2;intro j hj;have:=(mem_ready.1 hj).1;rw [hf j] at this;cases this
 | succ fuel ih=>
  intro listed v w O r hc hJ;refine ⟨fun hr=>fin v w (by rw [<-U listed (M listed O r hr)];exact hJ),fun i hi=>?_⟩;obtain ⟨a2,o,ho,a1⟩:=mem_ready.1 hi;have D:=r i a2;refine wpOpIn_step l n a9 ho fun K' hK=>?_
  have E:i<listed.size:=by have:=h3 i D;omega
  refine step i D (fun k=>listed.getD k true) v w hJ a2 (fun o' L d hd hb=>?_) o ho K' fun a' x w' ha c8 a4=>?_
  ·rw [ho] at L;injection L with L;subst L;have h9:=a1 d hd hb;by_cases a3:d.on<listed.size
   ·simp only [Array.getD,a3,dif_pos] at h9⊢;exact h9
   ·simp only [Array.getD,a3,dif_neg,not_false_eq_true] at h9;cases h9
  ·refine hK _ _ ?_
   have G:zV (fun k=>listed.getD k true) i true=fun k=>(listed.setIfInBounds i true).getD k true:=by
    funext k;by_cases I:k=i
    ·subst I;rw [Bh];simp [Array.getD,E]
    ·rw [Az _ _ I];simp only [Array.getD,Array.size_setIfInBounds]
     split
     ·rename_i h
      show listed[k]=(listed.setIfInBounds i true)[k]'(by simpa using h);rw [Array.getElem_setIfInBounds,if_neg (Ne.symm I)]
     ·rfl
   rw [G] at a4;rw [<-ha,putAll_set v i x js a0 h2 hD D];refine ih (listed.setIfInBounds i true) (zV v i x) w' (by simpa using O) (fun k I=>?_) ?_ a4
   ·by_cases B:k=i
    ·rw [B];exact D
    ·have:=congrFun G k;rw [Az _ _ B] at this;exact r k (this.trans I)
   ·have b1:(js.filter fun k=>!(listed.setIfInBounds i true).getD k true)=(js.filter fun k=>!listed.getD k true).erase i:=by
     rw [List.Nodup.erase_eq_filter (h2.filter _),List.filter_filter];apply List.filter_congr;intro k I;have:=congrFun G k;rw [<-this];by_cases B:k=i
     ·subst B;simp [Bh]
     ·rw [Az _ _ B];simp [B]
    rw [b1,List.length_erase_of_mem (Ex.2 ⟨D,by show (!listed.getD i true)=true;rw [a2];rfl⟩)];omega
theorem wpAnyIn_by_inv (l n:Nat) (D:noDeferB ops=true) (js:List Nat) (J:(Nat->Bool)->(Nat->Value)->World->Prop) (B:BY md ops js=true) (hL:leftB ops listed js=true) (hf:js.length<=fuel)
  (init:∀e v,(∀j∈js,e j=false)->J e v w)
  (E:(js.all fun j=>!listed.getD j true)=true)
  (step:∀j∈js,∀e v w,J e v w->e j=false->(∀o,ops[j]?=some o->∀d∈o.after,Region.binds md d=true->e d.on=true)->∀o,ops[j]?=some o->∀K:Act->World->Prop,Hid (StepTo ops (fun _=>True) J js a0 j e v K)->
   if Region.wanted o (yielded ops (zE ops v js a0).tmps)=true then Oper.wp P o (zE ops v js a0) w K Q else K ((zE ops v js a0).put o.dst undef) w)
  (fin:∀v w,J (fun _=>true) v w->Q .normal (zE ops v js a0) w):wpAnyIn (Fence.wide.inRound l) n P md ops Q fuel listed a0 w:=by
 unfold leftB at hL;simp only [DO,ED,DM,EB] at hL
 have L:js.Nodup:=by
  unfold BY at B;simp only [DO,DM] at B;exact B.1.1.2
 obtain ⟨v,M⟩:=Dr (ops:=ops) a0 js L
 have h:=wpAnyIn_inv l n D B step fin fuel listed v w hL.1 (fun k G=>by
  by_cases r:k<listed.size
  ·rcases hL.2 k (Ez.2 r) with h | h
   ·rw [G] at h;cases h
   ·exact h
  ·simp [Array.getD,r] at G) (DE (Ef _ _) hf) (init _ _ (fun j I=>by
   have:=ED.1 E j I;simpa using this))
 rwa [M] at h
end
section
variable {P:Program} {ops:Array Oper} {Q:Exit->Act->World->Prop} {md:Region.Mode} {S:World->Prop}
def StepToF (F:(Nat->Value)->Act) (d:Option Tmp) (S:World->Prop) (J:(Nat->Bool)->(Nat->Value)->World->Prop) (j:Nat) (e:Nat->Bool) (v:Nat->Value) (K:Act->World->Prop):Prop:=
 ∀a' x w',(F v).put d x=a'->S w'->J (zV e j true) (zV v j x) w'->K a' w'
def zi (P:Program) (ops:Array Oper) (Q:Exit->Act->World->Prop) (md:Region.Mode) (F:(Nat->Value)->Act) (S:World->Prop) (J:(Nat->Bool)->(Nat->Value)->World->Prop) (js:List Nat):Prop:=
 ∀j∈js,∀e v w,J e v w->S w->e j=false->∀o,ops[j]?=some o->(∀d∈o.after,Region.binds md d=true->e d.on=true)->∀K:Act->World->Prop,Hid (StepToF F o.dst S J j e v K)->
   if Region.wanted o (yielded ops (F v).tmps)=true then Oper.wp P o (F v) w K Q else K ((F v).put o.dst undef) w
theorem zi.nil {F:(Nat->Value)->Act} {J:(Nat->Bool)->(Nat->Value)->World->Prop}:zi P ops Q md F S J []:=fun _ h=>by cases h
theorem zi.cons {F:(Nat->Value)->Act} {J:(Nat->Bool)->(Nat->Value)->World->Prop} {j:Nat} {js:List Nat} {o:Oper} (I:ops[j]?=some o)
  (h:∀e v w (K:Act->World->Prop),J e v w->S w->e j=false->(∀d∈o.after,Region.binds md d=true->e d.on=true)->Hid (StepToF F o.dst S J j e v K)->
   if Region.wanted o (yielded ops (F v).tmps)=true then Oper.wp P o (F v) w K Q else K ((F v).put o.dst undef) w)
  (L:zi P ops Q md F S J js):zi P ops Q md F S J (j :: js):=by
 intro k hk;rcases Ep.1 hk with rfl | hk
 ·intro e v w B E he o' r G K D;rw [I] at r;injection r with r;subst r;exact h e v w K B E he G D
 ·exact L k hk
theorem Bi (js:List Nat) (J:(Nat->Bool)->(Nat->Value)->World->Prop) {F:(Nat->Value)->Act} (L:BY md ops js=true) (hL:leftB ops listed js=true) (hf:js.length<=fuel) (d:S w)
  (hF:∀v,zE ops v js a0=F v) (init:∀e v,(∀j∈js,e j=false)->J e v w) (I:(js.all fun j=>!listed.getD j true)=true) (step:zi P ops Q md F S J js)
  (fin:∀v w,J (fun _=>true) v w->S w->Q .normal (F v) w):wpAnyH P md ops Q S fuel listed a0 w:=by
 refine wpAnyH_by_inv js J L hL hf d init I (fun j V e v w B d he U o G K M=>?_) (fun v w B d=>by rw [hF v];exact fin v w B d);have r:Bt ops j=o.dst:=by unfold Bt;rw [G];rfl
 have h:=step j V e v w B d he o G (U o G) K (fun a' x w' O E D=>M.out a' x w' (by rw [hF v,r];exact O) E D);rw [hF v];exact h
theorem wpAnyIn_by_invF (l n:Nat) (D:noDeferB ops=true) (js:List Nat) (J:(Nat->Bool)->(Nat->Value)->World->Prop) {F:(Nat->Value)->Act} (L:BY md ops js=true) (hL:leftB ops listed js=true) (hf:js.length<=fuel)
  (hF:∀v,zE ops v js a0=F v) (init:∀e v,(∀j∈js,e j=false)->J e v w) (I:(js.all fun j=>!listed.getD j true)=true) (step:zi P ops Q md F (fun _=>True) J js)
  (fin:∀v w,J (fun _=>true) v w->Q .normal (F v) w):wpAnyIn (Fence.wide.inRound l) n P md ops Q fuel listed a0 w:=by
 refine wpAnyIn_by_inv l n D js J L hL hf init I (fun j V e v w r he U o G K M=>?_) (fun v w r=>by rw [hF v];exact fin v w r);have d:Bt ops j=o.dst:=by unfold Bt;rw [G];rfl
 have h:=step j V e v w r trivial he o G (U o G) K (fun a' x w' O E B=>M.out a' x w' (by rw [hF v,d];exact O) E B);rw [hF v];exact h
end
def GivesB {α:Type} (n:Nat) (P:Program) (g:Nat) (lb:Array Value) (encs:α->Array Value) (G:Nat->α->World->Prop) (N:Nat) (w:World):Prop:=
 ∀(l:Nat) (J:Nat->World->Prop) (Jx:World->Prop) (W:World),zc w W->w.heap.size<=l->l<W.heap.size->(∀k A B,J k A->Below W.heap.size A B->J k B)->(∀A B,Jx A->Below W.heap.size A B->Jx B)->
  (∀k x W1,k<N->J k W1->G k x W1->YieldAt Fence.wide (n - 1) P l (encs x) W1 fun e W'=>(e=.returned (.bool true)/\J (k+1) W'/\W1.grownBy W' (some l))\/(e=.returned (.bool false)/\Jx W'))->
  J 0 W->
  CallsIn Fence.wide n P g (#[.func (.yield l) #[] #[]]++lb) W fun e W'=>(∃v,e=.returned v)/\(J N W'\/Jx W')
def postB (B k:Nat) (I:Nat->World->Prop) (Ix:Code->World->Prop) (W:World):Exit->Act->World->Prop
 | .normal,_,W'=>zc W W'/\I (k+1) W'
 | .ret,_,W'=>(∀b,B<=b->b<W.heap.size->W'.heap[b]?=W.heap[b]?)/\Ix .ret W'
 | .exit id,_,W'=>(∀b,B<=b->b<W.heap.size->W'.heap[b]?=W.heap[b]?)/\Ix (.exit id) W'
 | .goto t,_,W'=>(∀b,B<=b->b<W.heap.size->W'.heap[b]?=W.heap[b]?)/\Ix (.goto t) W'
 | .panic _,_,_=>False
 | .outgrown,_,_=>False
theorem zD {B l:Nat} {W:World} (o:Obj) (h:B<=l) (d:l<W.heap.size):Below B W (W.putObj l o):=
 (Below.refl B W).grown (grownBy_putObj' W l o) (by omega) (fun k e=>by cases e;exact h)
theorem wpIn_loopB {P:Program} {n:Nat} {α:Type} {g:Operand} {ps:Array Tmp} {assign body:Code} {Q:Exit->Act->World->Prop}
  {gf:Nat} {lb:Array Value} (hg:a.eval g=.func (.func gf) #[] lb) (eg:∀args w,(callFunc gf args).run P w=.ok (.enter gf args) w)
  {encs:α->Array Value} {G:Nat->α->World->Prop} {N:Nat} {w0:World} (b6:GivesB (n - 1) P gf lb encs G N w0) (b5:zc w0 w) (c8:∀x,(encs x).size=ps.size)
  (I:Nat->World->Prop) (Ix:Code->World->Prop) (hI:∀k A B,I k A->Below w.heap.size A B->I k B) (hIx:∀c A B,Ix c A->Below w.heap.size A B->Ix c B)
  (hG:∀k x A l,G k x A->w.heap.size<l->l<A.heap.size->(∃r,A.heap[l]?=some (.loop r))->∀o,G k x (A.putObj l o)) (h0:I 0 w) (a₁:α->Act)
  (a5:∀(l:Nat) (x:α) (W:World) (K:Act->World->Prop),K (a₁ x) W->
   assign.wpIn (Fence.wide.inRound l) (n - 1 - 1) P (Exit.then K (fun _ _ _=>False)) { tmps:=(ps.zip (encs x)).foldl (fun t (p,v)=>t.setIfInBounds p v) a.tmps,defers:=[] } W)
  (a9:∀(l k:Nat) (x:α) (W:World),k<N->I k W->G k x W->w.heap.size<W.heap.size->body.wpIn (Fence.wide.inRound l) (n - 1 - 1) P (postB w.heap.size k I Ix W) (a₁ x) W)
  (b0:∀(D:Nat) (W:World),w.heap.size<=D->I N W->W.heap[D]?=some (.deferred (some []))->Q .normal { a with defers:={ target:=.collected D,args:=#[] } :: a.defers } W)
  (b2:∀(D:Nat) (c:Code) (W:World),w.heap.size<=D->Ix c W->W.heap[D]?=some (.deferred (some []))->c.wpIn Fence.wide n P Q { a with defers:={ target:=.collected D,args:=#[] } :: a.defers } W):
  (Code.rangeFunc g ps assign body).wpIn Fence.wide n P Q a w:=by
 refine wpIn_rangeFunc ?_;intro fn hfn;obtain ⟨rec,E⟩:∃rec:LoopState->Option Code->Loop,rec=fun st pe=>{ state:=st,pending:=pe,fn,tmps:=a.tmps,params:=ps,assign,body,defers:=w.heap.size }:=⟨_,rfl⟩
 obtain ⟨W1,a4⟩:∃W1,(w.alloc (.deferred (some []))).alloc (.loop (rec .ready none))=W1:=⟨_,rfl⟩;have d6:W1.heap.size=w.heap.size+2:=by rw [<-a4];simp
 have b9:W1.heap[w.heap.size+1]?=some (.loop (rec .ready none)):=by
  rw [<-a4];have:=World.alloc_heap_new (w.alloc (.deferred (some []))) (.loop (rec .ready none))
  rwa [World.size_alloc] at this
 have b8:W1.heap[w.heap.size]?=some (.deferred (some [])):=by
  rw [<-a4];exact (DV _ _ _ (by simp)).trans (World.alloc_heap_new w _)
 have b4:zc w W1:=by rw [<-a4];exact ((zc.refl w).alloc _).alloc _
 refine ⟨w.heap.size+1,[{ target:=.collected w.heap.size,args:=#[] }],W1,{ target:=.fn (.func gf) lb,args:=#[.func (.yield (w.heap.size+1)) #[] #[]] },W1,gf,
  #[.func (.yield (w.heap.size+1)) #[] #[]]++lb,W1,?_,?_,fun _ _=>trivial,?_,fun h=>absurd h (by simp [Fence.wide]),?_⟩
 ·rw [<-a4,E];exact run_enterLoop_outer _ _ _ _ _
 ·simp only [resolve,hg];simp [go_sem]
 ·simp [invoke,go_sem,eg]
 ·refine (b6 (w.heap.size+1)
   (fun k W=>I k W/\W.heap[w.heap.size+1]?=some (.loop (rec .ready none))/\W.heap[w.heap.size]?=some (.deferred (some []))/\w.heap.size+1<W.heap.size)
   (fun W=>∃c,Ix c W/\W.heap[w.heap.size+1]?=some (.loop (rec .done (some c)))/\W.heap[w.heap.size]?=some (.deferred (some [])))
   W1 (b5.trans b4) (by have:=b5.size;omega) (by omega) ?_ ?_ ?_ ⟨hI _ _ _ h0 b4,b9,b8,by omega⟩).mono ?_
  ·rintro k A B ⟨h1,h2,h3,h4⟩ L;exact ⟨hI _ _ _ h1 (L.mono (by omega)),(L.block _ (by omega)).trans h2,(L.block _ (by omega)).trans h3,Ee h4 L.size⟩
  ·rintro A B ⟨c,h1,h2,h3⟩ L;exact ⟨c,hIx _ _ _ h1 (L.mono (by omega)),(L.block _ (by omega)).trans h2,(L.block _ (by omega)).trans h3⟩
  ·-- one round
   rintro k x W c7 ⟨hi,hl,hD,a2⟩ c6;have hy:=run_yield (P:=P) (args:=encs x) hl (by rw [E];exact c8 x);rw [E] at hy;refine ⟨fn,_,assign,body,hy,roundIn_of_wpIn hfn (a5 _ x W _ ⟨_,run_beginRound hl (by rw [E]),?_⟩)⟩;have a6:(W.putObj (w.heap.size+1) (.loop { rec .ready none with state:=.busy })).heap[w.heap.size+1]?=some (.loop { rec .ready none with state:=.busy }):=World.putObj_heap_same a2;have a7:(W.putObj (w.heap.size+1) (.loop { rec .ready none with state:=.busy })).heap[w.heap.size]?=some (.deferred (some [])):=(World.putObj_heap_other (by omega)).trans hD;have O:w.heap.size+1<(W.putObj (w.heap.size+1) (.loop { rec .ready none with state:=.busy })).heap.size:=(Ev.1 a6).1;have c0:W.grownBy (W.putObj (w.heap.size+1) (.loop { rec .ready none with state:=.busy })) (some (w.heap.size+1)):=grownBy_putObj' _ _ _;refine wpIn_mono (a9 _ k x _ c7 (hI _ _ _ hi (zD _ (by omega) a2)) (hG _ _ _ _ c6 (by omega) a2 ⟨_,hl⟩ _) (Nat.lt_trans (Nat.lt_succ_self _) O)) ?_;generalize W.putObj (w.heap.size+1) (.loop { rec .ready none with state:=.busy })=W2 at*
   have fin:∀(jump:Option Code) (W3:World),W3.heap[w.heap.size+1]?=some (.loop { rec .ready none with state:=.busy })->
     (Instr.endRound (w.heap.size+1) jump).run P W3=.ok (.bool jump.isNone) (W3.putObj (w.heap.size+1) (.loop (rec (if jump.isNone then .ready else .done) jump))):=fun jump W3 J=>by
    have:=run_endRound (P:=P) jump J;rw [E] at this⊢;exact this
   rintro e a3 W3 hp
   cases e with
   | normal=>
    obtain ⟨V,a1⟩:=hp;have J:=(V.block _ O).trans a6;have d:=(Ev.1 J).1;have U:=(V.block _ (by omega)).trans a7;refine ⟨_,_,fin none W3 J,.inl ⟨rfl,⟨hI _ _ _ a1 (zD _ (by omega) d),World.putObj_heap_same d,(World.putObj_heap_other (by omega)).trans U,?_⟩,?_⟩⟩
    ·exact (Ev.1 (World.putObj_heap_same d)).1
    ·exact (c0.trans ⟨V.os,V.tape,V.output,V.size,fun i hi _=>V.block i hi⟩).trans (grownBy_putObj' _ _ _)
   | ret=>
    obtain ⟨M,a1⟩:=hp;have J:=(M _ (by omega) O).trans a6;have d:=(Ev.1 J).1;have U:=(M _ (DC _) (by omega)).trans a7;exact ⟨_,_,fin (some .ret) W3 J,.inr ⟨rfl,.ret,hIx _ _ _ a1 (zD _ (by omega) d),World.putObj_heap_same d,(World.putObj_heap_other (by omega)).trans U⟩⟩
   | exit id=>
    obtain ⟨M,a1⟩:=hp;have J:=(M _ (by omega) O).trans a6;have d:=(Ev.1 J).1;have U:=(M _ (DC _) (by omega)).trans a7;exact ⟨_,_,fin (some (.exit id)) W3 J,.inr ⟨rfl,.exit id,hIx _ _ _ a1 (zD _ (by omega) d),World.putObj_heap_same d,(World.putObj_heap_other (by omega)).trans U⟩⟩
   | goto t=>
    obtain ⟨M,a1⟩:=hp;have J:=(M _ (by omega) O).trans a6;have d:=(Ev.1 J).1;have U:=(M _ (DC _) (by omega)).trans a7;exact ⟨_,_,fin (some (.goto t)) W3 J,.inr ⟨rfl,.goto t,hIx _ _ _ a1 (zD _ (by omega) d),World.putObj_heap_same d,(World.putObj_heap_other (by omega)).trans U⟩⟩
   | panic ch=>exact hp.elim
   | outgrown=>exact hp.elim
  ·-- behind the iterator
   rintro e W2 ⟨⟨v,rfl⟩,(⟨hi,hl,hD,a2⟩ | ⟨c,hi,hl,hD⟩)⟩
   ·exact ⟨none,_,by have:=run_endLoop (P:=P) hl (by rw [E];simp);rw [E] at this;exact this,b0 _ _ (DC _) (hI _ _ _ hi (zD _ (by omega) a2)) ((World.putObj_heap_other (by omega)).trans hD)⟩
   ·have a2:=(Ev.1 hl).1;exact ⟨some c,_,by have:=run_endLoop (P:=P) hl (by rw [E];simp);rw [E] at this;exact this,b2 _ c _ (DC _) (hIx _ _ _ hi (zD _ (by omega) a2)) ((World.putObj_heap_other (by omega)).trans hD)⟩
end
section
open Go.RowKit
attribute [local go_sem ↓] Go.wp_at_zero Go.wp_at_succ
theorem AQ.freeCell {t:Nat} (h:AQ w ok g m ch ps us f u ts vc vp gu) (hfn:∀f∈m.free,(f.length:Int)=m.n) (ht:t<m.free.length) {n:Int} (h0:0<=n) (h1:n<m.n):
  ∃b off c b' off' l c',f=.slice (some ⟨b,off,none⟩) m.free.length c/\w.cell? ⟨b,off+t,none⟩=some (.slice (some ⟨b',off',none⟩) l c')/\n<(l:Int)/\l<=c'/\m.free.length<=c/\w.cell? ⟨b',off'+n.toNat,none⟩=some (.bool (zl m t n)):=by
 obtain ⟨fr',up',ts',he,r,_,_⟩:=h.maze;injection he with he;injection he with he;simp only [List.cons.injEq,and_true,true_and] at he;obtain ⟨rfl,rfl,rfl⟩:=he;obtain ⟨vsf,⟨Af,cf,rfl,I,O⟩,J⟩:=r;obtain ⟨bf,off3,uf,rfl,_,D,E⟩:=BG O J ht ht;have L:=hfn _ (DD ht);obtain ⟨A4,c4,rfl,G,M⟩:=E;have B:n.toNat<(m.free[t]).length:=by omega
 obtain ⟨b4,off4,rfl,_,d⟩:=CC M B B;have r:(m.free[t])[n.toNat]=zl m t n:=by simp [zl,ht,B]
 rw [r] at d;exact ⟨bf,off3,cf,b4,off4,_,c4,rfl,D,by omega,G,I,d⟩
theorem cand1_calls (t:Nat) (n:Int) (w:World) (h:AQ w ok g m ch ps us f u ts vc vp gu) (hfn:∀f∈m.free,(f.length:Int)=m.n) (ht:t<m.free.length)
  (L:w.cell? ⟨g1,0,none⟩=some (.pointer (some ⟨g,0,none⟩))) (M:w.cell? ⟨g2,0,none⟩=some (.int .i64 t)) (h0:0<=n) (h1:n<m.n):
  Calls Tryz.prog 127 #[.int .i64 n,.pointer (some ⟨g1,0,none⟩),.pointer (some ⟨g2,0,none⟩)] w fun e w'=>e=.returned (.bool (zl m t n && !decide (n∈us)))/\zG w w':=by
 obtain ⟨r0,r1,r2,r3,r4,r5,r6,r7,r8⟩:=h.rules;obtain ⟨b,off,c,b',off',l,c',rfl,J,hl,U,O,B⟩:=h.freeCell hfn ht h0 h1;have E:=h.us;clear h hfn;have hx:=zc.refl w;have a1:(t:Int)<(m.free.length:Int):=by omega
 have V:(0:Int)<=(t:Int):=by omega
 obtain ⟨fb,D⟩:=EH (zl m t n);rw [<-D] at B⊢;clear D h1;by_cases r:n∈us
 ·have I:=fun q=>look_t (E.below ((zc.refl w).drewN q)) r
  have G:=zh r;clear r;have d:Hid ((fb && !decide (n∈us))=false):=by show _=false;rw [DF G.out];cases fb <;> rfl
  cases fb with
  | false=>
   go_enter Tryz.func127,Tryz.ntmps127
   go_wp2_with fail
   go_quiet (fail)
   go_wp2;go_ret;exact ⟨zk d.out.symm,(zG.refl w).more _⟩
  | true=>
   go_enter Tryz.func127,Tryz.ntmps127
   go_wp2_with fail
   go_quiet (fail)
   go_wp2;go_ret;exact ⟨zk d.out.symm,(zG.refl w).more _⟩
 ·have I:=fun q=>look_f (E.below ((zc.refl w).drewN q)) r
  have G:=zh r;clear r;have d:Hid ((fb && !decide (n∈us))=fb):=by show _=fb;rw [DG G.out];cases fb <;> rfl
  cases fb with
  | false=>
   go_enter Tryz.func127,Tryz.ntmps127
   go_wp2_with fail
   go_quiet (fail)
   go_wp2;go_ret;exact ⟨zk d.out.symm,(zG.refl w).more _⟩
  | true=>
   go_enter Tryz.func127,Tryz.ntmps127
   go_wp2_with fail
   go_quiet (fail)
   go_wp2;go_ret;exact ⟨zk d.out.symm,(zG.refl w).more _⟩
theorem left11_calls (t:Nat) (n:Int) (w:World) (h:AQ w ok g m ch ps us f u ts vc vp gu) (hfn:∀f∈m.free,(f.length:Int)=m.n) (ht:t<m.free.length)
  (L:w.cell? ⟨g1,0,none⟩=some (.pointer (some ⟨g,0,none⟩))) (M:w.cell? ⟨g2,0,none⟩=some (.int .i64 t)) (h0:0<=n) (h1:n<m.n):
  Calls Tryz.prog 145 #[.int .i64 n,.pointer (some ⟨g1,0,none⟩),.pointer (some ⟨g2,0,none⟩)] w fun e w'=>e=.returned (.bool (!zl m t n || decide (n∈us)))/\zG w w':=by
 obtain ⟨r0,r1,r2,r3,r4,r5,r6,r7,r8⟩:=h.rules;obtain ⟨b,off,c,b',off',l,c',rfl,J,hl,U,O,B⟩:=h.freeCell hfn ht h0 h1;have E:=h.us;clear h hfn;have hx:=zc.refl w;have a1:(t:Int)<(m.free.length:Int):=by omega
 have V:(0:Int)<=(t:Int):=by omega
 obtain ⟨fb,D⟩:=EH (zl m t n);rw [<-D] at B⊢;clear D h1;by_cases r:n∈us
 ·have I:=fun q=>look_t (E.below ((zc.refl w).drewN q)) r
  have G:=zh r;clear r;have d:Hid ((!fb || decide (n∈us))=true):=by show _=true;rw [DF G.out];cases fb <;> rfl
  cases fb with
  | false=>
   go_enter Tryz.func145,Tryz.ntmps145
   go_wp2_with fail
   go_quiet (fail)
   go_wp2;go_ret;exact ⟨zk d.out.symm,(zG.refl w).more _⟩
  | true=>
   go_enter Tryz.func145,Tryz.ntmps145
   go_wp2_with fail
   go_quiet (fail)
   go_wp2;go_ret;exact ⟨zk d.out.symm,(zG.refl w).more _⟩
 ·have I:=fun q=>look_f (E.below ((zc.refl w).drewN q)) r
  have G:=zh r;clear r;have d:Hid ((!fb || decide (n∈us))=!fb):=by show _=!fb;rw [DG G.out];cases fb <;> rfl
  cases fb with
  | false=>
   go_enter Tryz.func145,Tryz.ntmps145
   go_wp2_with fail
   go_quiet (fail)
   go_wp2;go_ret;exact ⟨zk d.out.symm,(zG.refl w).more _⟩
  | true=>
   go_enter Tryz.func145,Tryz.ntmps145
   go_wp2_with fail
   go_quiet (fail)
   go_wp2;go_ret;exact ⟨zk d.out.symm,(zG.refl w).more _⟩
theorem open1_calls {gs g5:Nat} {s:List Int} (n:Int) (w:World) (d:zB w gs s) (B:w.cell? ⟨g5,0,none⟩=some (.map (some gs))):
  Calls Tryz.prog 132 #[.int .i64 n,.pointer (some ⟨g5,0,none⟩)] w fun e w'=>e=.returned (.bool (decide (n∈s)))/\w=w':=by
 by_cases h:n∈s
 ·have r:=look_t d h;rw [DF h];clear h d
  go_enter Tryz.func132,Tryz.ntmps132
  go_wp2;go_ret;exact ⟨rfl,rfl⟩
 ·have r:=look_f d h;rw [DG h];clear h d
  go_enter Tryz.func132,Tryz.ntmps132
  go_wp2;go_ret;exact ⟨rfl,rfl⟩
end
end Go.Proofs.YtcnaogdgjkpkmaaGreatDoor
