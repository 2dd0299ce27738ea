import Derived.Test.YthbjngbhbbkkgaaGreatHRe
import Derived.Deep.RegionHeld
import Derived.CallsIn
import Derived.OrdersIn
import Derived.RangeFuncCalls
import Derived.Shelf.SlGeneric
import Derived.Shelf.SortM.Plain
import Derived.Shelf.SortM.SortNone
import Derived.Shelf.SlicesG.CompactI
import Derived.Shelf.SlicesE.DeleteFunc
import Derived.Ground.SlgmProg
import Derived.Ground.SlgnProg
import Derived.Test.YthbjngbhbbkkgaaGreatRows
import Derived.Lib.OwnBridge
import Derived.Sort.OwnSortedInts
set_option linter.unusedVariables false
set_option linter.unusedSimpArgs false
set_option maxRecDepth 100000
set_option maxHeartbeats 16000000
namespace Go.Proofs.YthbjngbhbbkkgaaGreat
variable {a a0:Act} {K:Act->World->Prop} {listed:Array Bool} {ps:List (List Int)} {ch l us:List Int} {js:List Nat} {m:MZ} {B fuel g g1 g2 gu:Nat} {ok:Nat->Prop} {o:Oper} {f ts u v vc vp:Value} {w w1:World}
section
open Go.RowKit
section
variable {P:Program} {ops:Array Oper} {Q:Exit->Act->World->Prop} {md:Region.Mode} {S:World->Prop}
def Cc (ops:Array Oper) (j:Nat):Option Tmp:=(ops[j]?).bind (·.dst)
def zM (ops:Array Oper) (v:Nat->Value):List Nat->Act->Act
 | [],a=>a
 | j :: js,a=>zM ops v js (a.put (Cc ops j) (v j))
def Ao {α:Type} (f:Nat->α) (j:Nat) (x:α):Nat->α:=fun k=>if k=j then x else f k
theorem BI {α:Type} (f:Nat->α) (j:Nat) (x:α):Ao f j x j=x:=by simp [Ao]
theorem Ah {α:Type} (f:Nat->α) {j k:Nat} (x:α) (h:k≠j):Ao f j x k=f k:=by simp [Ao,h]
theorem put_put (a:Act) (d:Option Tmp) (x y:Value):(a.put d x).put d y=a.put d y:=by
 cases d with
 | none=>rfl
 | some d=>simp [Act.put]
theorem put_comm (a:Act) {d d':Option Tmp} (x y:Value) (h:d=d'->d=none):(a.put d x).put d' y=(a.put d' y).put d x:=by
 cases d with
 | none=>rfl
 | some d=>
  cases d' with
  | none=>rfl
  | some d'=>
   have z:d≠d':=fun e=>by subst e;exact absurd (h rfl) (by simp)
   simp only [Act.put];rw [Array.setIfInBounds_comm _ _ z]
theorem putAll_put (v:Nat->Value) (d:Option Tmp) (x:Value):∀(js:List Nat) (a:Act),(∀k∈js,Cc ops k=d->d=none)->(zM ops v js a).put d x=zM ops v js (a.put d x)
 | [],_,_=>rfl
 | k :: js,a,h=>by
  simp only [zM];rw [putAll_put v d x js _ (fun k' z=>h k' (Fa _ z)),put_comm a _ _ (fun e=>by rw [e];exact h k (Ft ..) e)]
theorem putAll_upd (v:Nat->Value) (j:Nat) (x:Value):∀(js:List Nat) (a:Act),j∉js->zM ops (Ao v j x) js a=zM ops v js a
 | [],_,_=>rfl
 | k :: js,a,h=>by
  simp only [zM];rw [Ah v x (fun e=>h (by simp [e])),putAll_upd v j x js _ (fun z=>h (Fa _ z))]
def Dist (ops:Array Oper) (js:List Nat):Prop:=∀j∈js,∀k∈js,j≠k->Cc ops j=Cc ops k->Cc ops k=none
theorem putAll_set (v:Nat->Value) (j:Nat) (x:Value):∀(js:List Nat) (a:Act),js.Nodup->Dist ops js->j∈js->(zM ops v js a).put (Cc ops j) x=zM ops (Ao v j x) js a
 | [],_,_,_,h=>by cases h
 | k :: js,a,M,E,h=>by
  obtain ⟨G,D⟩:=List.nodup_cons.1 M;simp only [zM];by_cases e:j=k
  ·subst e;rw [BI,putAll_upd v j x js _ G,putAll_put v _ x js _ (fun k' z he=>E k' (Fa _ z) j (Ft ..) (fun e=>G (e ▸ z)) he),put_put]
  ·have L:j∈js:=by
    rcases Fw.1 h with h | h
    ·exact absurd h e
    ·exact h
   rw [Ah v x (fun h=>e h.symm)];exact putAll_set v j x js _ D (fun a I b J=>E a (Fa _ I) b (Fa _ J)) L
theorem put_self (a:Act) (d:Option Tmp):∃x,a.put d x=a:=by
 cases d with
 | none=>exact ⟨undef,rfl⟩
 | some d=>
  refine ⟨a.tmps.getD d undef,?_⟩;obtain ⟨t,ds⟩:=a;simp only [Act.put,Act.mk.injEq,and_true];apply Array.ext_getElem?;intro i;rw [Array.getElem?_setIfInBounds]
  split
  ·rename_i h
   subst h
   split
   ·rename_i h;simp [Array.getD,h]
   ·rename_i h;rw [Array.getElem?_eq_none (by omega)]
  ·rfl
theorem Ep (a:Act):∀(js:List Nat),js.Nodup->∃v,zM ops v js a=a
 | [],_=>⟨fun _=>undef,rfl⟩
 | j :: js,h=>by
  obtain ⟨z,D⟩:=List.nodup_cons.1 h;obtain ⟨v,E⟩:=Ep a js D;obtain ⟨x,G⟩:=put_self a (Cc ops j);refine ⟨Ao v j x,?_⟩;simp only [zM];rw [BI,putAll_upd v j x js _ z,G,E]
def CN (md:Region.Mode) (ops:Array Oper) (js:List Nat):Bool:=
 ((List.range ops.size).all fun j=>match ops[j]? with | none=>false | some o=>o.after.toList.all fun e=>!Region.binds md e || decide (e.on<j)) &&
 decide js.Nodup && (js.all fun j=>decide (j<ops.size)) && (js.all fun j=>js.all fun k=>decide (j=k) || !(decide (Cc ops j=Cc ops k)) || decide (Cc ops k=none))
def leftB (ops:Array Oper) (listed:Array Bool) (js:List Nat):Bool:=decide (listed.size=ops.size) && (List.range listed.size).all fun k=>listed.getD k true || decide (k∈js)
def StepTo (ops:Array Oper) (S:World->Prop) (J:(Nat->Bool)->(Nat->Value)->World->Prop) (js:List Nat) (a0:Act) (j:Nat) (e:Nat->Bool) (v:Nat->Value) (K:Act->World->Prop):Prop:=
 ∀a' x w',(zM ops v js a0).put (Cc ops j) x=a'->S w'->J (Ao e j true) (Ao v j x) w'->K a' w'
theorem wpAnyH_inv {J:(Nat->Bool)->(Nat->Value)->World->Prop} (hB:CN md ops js=true)
  (step:∀j∈js,∀e v w,J e v w->S w->e j=false->(∀o,ops[j]?=some o->∀d∈o.after,Region.binds md d=true->e d.on=true)->∀o,ops[j]?=some o->∀K:Act->World->Prop,Hid (StepTo ops S J js a0 j e v K)->
   if Region.wanted o (yielded ops (zM ops v js a0).tmps)=true then Oper.wp P o (zM ops v js a0) w K Q else K ((zM ops v js a0).put o.dst undef) w)
  (fin:∀v w,J (fun _=>true) v w->S w->Q .normal (zM ops v js a0) w):
  ∀(fuel:Nat) (listed:Array Bool) (v:Nat->Value) (w:World),listed.size=ops.size->(∀k,listed.getD k true=false->k∈js)->(js.filter fun k=>!listed.getD k true).length<=fuel->S w->J (fun k=>listed.getD k true) v w->
   wpAnyH P md ops Q S fuel listed (zM ops v js a0) w:=by
 unfold CN at hB;simp only [ES,FN,EQ,FK,Bool.not_eq_true',Fd] at hB;obtain ⟨⟨⟨h1,h2⟩,h3⟩,h4⟩:=hB
 have hD:Dist ops js:=fun j hj k L b4 he=>by
  rcases h4 j hj k L with (h | h) | h
  ·exact absurd h b4
  ·exact absurd he h
  ·exact h
 have U:∀listed:Array Bool,(∀k,listed.getD k true=true)->(fun k=>listed.getD k true)=fun _=>true:=fun listed h=>funext h
 have O:∀listed:Array Bool,listed.size=ops.size->(∀k,listed.getD k true=false->k∈js)->Region.ready md ops listed=[]->∀k,listed.getD k true=true:=by
  intro listed T z hr
  have L:∀n k,k<n->listed.getD k true=true:=by
   intro n
   induction n with
   | zero=>intro k h;omega
   | succ n ih=>
    intro k d4
    cases hv:listed.getD k true with
    | true=>rfl
    | false=>
     exfalso
     have G:=h3 k (z k hv)
     have V:k∈Region.ready md ops listed:=mem_ready.2 ⟨hv,ops[k],Array.getElem?_eq_getElem G,fun e he hb=>by
      have:=h1 k (FI.2 G);rw [Array.getElem?_eq_getElem G] at this;have h5:=(FN.1 this) e (by simpa using he);simp only [FK,Bool.not_eq_true',EQ] at h5
      have h6:e.on<k:=by
       rcases h5 with h5 | h5
       ·rw [hb] at h5;cases h5
       ·exact h5
      have h7:=ih e.on (by omega);have h8:e.on<listed.size:=by omega
      simp only [Array.getD,h8,dif_pos] at h7⊢;exact h7⟩
     rw [hr] at V;cases V
  exact fun k=>L (k+1) k (by omega)
 intro fuel
 induction fuel with
 | zero=>
  intro listed v w T z hc hS hJ
  have hf:∀k,listed.getD k true=true:=fun k=>by
   cases hv:listed.getD k true with
   | true=>rfl
   | false=>
    exfalso
    have:k∈js.filter fun k=>!listed.getD k true:=FG.2 ⟨z k hv,by rw [hv];rfl⟩
    rw [EX (Nat.le_zero.1 hc)] at this;cases this
  refine ⟨?_,fin v w (by rw [<-U listed hf];exact hJ) hS⟩;apply List.eq_nil_iff_forall_not_mem.2;intro j hj;have:=(mem_ready.1 hj).1;rw [hf j] at this;cases this
 | succ fuel ih=>
  intro listed v w T z hc hS hJ;refine ⟨fun hr=>fin v w (by rw [<-U listed (O listed T z hr)];exact hJ) hS,fun i hi=>?_⟩;obtain ⟨a2,o,ho,a1⟩:=mem_ready.1 hi;have E:=z i a2;refine wpOp_step ho fun K' hK=>?_
  have G:i<listed.size:=by have:=h3 i E;omega
  refine step i E (fun k=>listed.getD k true) v w hJ hS a2 (fun o' M d hd hb=>?_) o ho K' fun a' x w' ha a5 a4=>?_
  ·rw [ho] at M;injection M with M;subst M;have h9:=a1 d hd hb;by_cases a3:d.on<listed.size
   ·simp only [Array.getD,a3,dif_pos] at h9⊢;exact h9
   ·simp only [Array.getD,a3,dif_neg,not_false_eq_true] at h9;cases h9
  ·refine hK _ _ ⟨a5,?_⟩
   have I:Ao (fun k=>listed.getD k true) i true=fun k=>(listed.setIfInBounds i true).getD k true:=by
    funext k;by_cases L:k=i
    ·subst L;rw [BI];simp [Array.getD,G]
    ·rw [Ah _ _ L];simp only [Array.getD,Array.size_setIfInBounds]
     split
     ·rename_i h
      show listed[k]=(listed.setIfInBounds i true)[k]'(by simpa using h);rw [Array.getElem_setIfInBounds,if_neg (Ne.symm L)]
     ·rfl
   rw [I] at a4;rw [<-ha,putAll_set v i x js a0 h2 hD E];refine ih (listed.setIfInBounds i true) (Ao v i x) w' (by simpa using T) (fun k L=>?_) ?_ a5 a4
   ·by_cases D:k=i
    ·rw [D];exact E
    ·have:=congrFun I k;rw [Ah _ _ D] at this;exact z k (this.trans L)
   ·have b2:(js.filter fun k=>!(listed.setIfInBounds i true).getD k true)=(js.filter fun k=>!listed.getD k true).erase i:=by
     rw [List.Nodup.erase_eq_filter (h2.filter _),List.filter_filter];apply List.filter_congr;intro k L;have:=congrFun I k;rw [<-this];by_cases D:k=i
     ·subst D;simp [BI]
     ·rw [Ah _ _ D];simp [D]
    rw [b2,List.length_erase_of_mem (FG.2 ⟨E,by show (!listed.getD i true)=true;rw [a2];rfl⟩)];omega
theorem wpAnyH_by_inv (js:List Nat) (J:(Nat->Bool)->(Nat->Value)->World->Prop) (D:CN md ops js=true) (E:leftB ops listed js=true) (M:js.length<=fuel) (L:S w)
  (init:∀e v,(∀j∈js,e j=false)->J e v w)
  (G:(js.all fun j=>!listed.getD j true)=true)
  (step:∀j∈js,∀e v w,J e v w->S w->e j=false->(∀o,ops[j]?=some o->∀d∈o.after,Region.binds md d=true->e d.on=true)->∀o,ops[j]?=some o->∀K:Act->World->Prop,Hid (StepTo ops S J js a0 j e v K)->
   if Region.wanted o (yielded ops (zM ops v js a0).tmps)=true then Oper.wp P o (zM ops v js a0) w K Q else K ((zM ops v js a0).put o.dst undef) w)
  (fin:∀v w,J (fun _=>true) v w->S w->Q .normal (zM ops v js a0) w):wpAnyH P md ops Q S fuel listed a0 w:=by
 unfold leftB at E;simp only [ES,FN,EQ,FK] at E
 have T:js.Nodup:=by
  unfold CN at D;simp only [ES,EQ] at D;exact D.1.1.2
 obtain ⟨v,U⟩:=Ep (ops:=ops) a0 js T
 have h:=wpAnyH_inv D step fin fuel listed v w E.1 (fun k I=>by
  by_cases z:k<listed.size
  ·rcases E.2 k (FI.2 z) with h | h
   ·rw [I] at h;cases h
   ·exact h
  ·simp [Array.getD,z] at I) (EI (Fi _ _) M) L (init _ _ (fun j O=>by
   have:=FN.1 G j O;simpa using this))
 rwa [U] at h
end
def noDeferB (ops:Array Oper):Bool:=ops.toList.all fun o=>match o.op with | .defer _=>false | _=>true
theorem operIn_of {P:Program} {Q:Exit->Act->World->Prop} (l n:Nat) (D:∀c,o.op≠.defer c) (h:o.wp P a w K Q):o.wpIn (Fence.wide.inRound l) n P a w K Q:=by
 have z:(Fence.wide.inRound l).depth.isSome=true->1<=n:=fun h=>absurd h (by simp [Fence.wide])
 refine ⟨fun f _=>trivial,?_⟩;rw [Oper.semAt_eq _ _ _ D];unfold Oper.wp at h;generalize (execOp a.eval o).run P w=r at*
 cases r with
 | ok x w'=>
  cases x with
  | enter f args=>exact ⟨z,(CallsIn.inRound l (callsIn_wide.2 h)).mono (fun e w'' he=>by cases e <;> exact he)⟩
  | row row args=>exact ⟨z,fun c cs _=>let ⟨v,w'',r,s⟩:=h c cs;⟨v,w'',r,stepsIn_wide.2 s⟩⟩
  | _=>first | exact h | exact (h:False).elim
 | halt x w'=>cases x <;> exact h
section
variable {P:Program} {ops:Array Oper} {Q:Exit->Act->World->Prop} {md:Region.Mode} {S:World->Prop}
theorem wpOpIn_step (l n:Nat) (D:noDeferB ops=true) {i:Nat} (E:ops[i]?=some o)
  (h:∀K':Act->World->Prop,(∀a w,K a w->K' a w)->if Region.wanted o (yielded ops a.tmps)=true then Oper.wp P o a w K' Q else K' (a.put o.dst undef) w):wpOpIn (Fence.wide.inRound l) n P ops Q i K a w:=by
 have h1:=h K (fun _ _ h=>h);unfold wpOpIn;rw [E]
 have G:∀c,o.op≠.defer c:=by
  intro c e;have:=FN.1 D o (by simpa using Array.mem_of_getElem? E);rw [e] at this;cases this
 by_cases z:Region.wanted o (yielded ops a.tmps)=true
 ·rw [if_pos z] at h1;simp only [z,if_true];exact operIn_of l n G h1
 ·rw [if_neg z] at h1;simp only [z];exact ⟨fun f _=>trivial,h1⟩
theorem wpAnyIn_inv (l n:Nat) (a9:noDeferB ops=true) {J:(Nat->Bool)->(Nat->Value)->World->Prop} (hB:CN md ops js=true)
  (step:∀j∈js,∀e v w,J e v w->e j=false->(∀o,ops[j]?=some o->∀d∈o.after,Region.binds md d=true->e d.on=true)->∀o,ops[j]?=some o->∀K:Act->World->Prop,Hid (StepTo ops (fun _=>True) J js a0 j e v K)->
   if Region.wanted o (yielded ops (zM ops v js a0).tmps)=true then Oper.wp P o (zM ops v js a0) w K Q else K ((zM ops v js a0).put o.dst undef) w)
  (fin:∀v w,J (fun _=>true) v w->Q .normal (zM ops v js a0) w):
  ∀(fuel:Nat) (listed:Array Bool) (v:Nat->Value) (w:World),listed.size=ops.size->(∀k,listed.getD k true=false->k∈js)->(js.filter fun k=>!listed.getD k true).length<=fuel->J (fun k=>listed.getD k true) v w->
   wpAnyIn (Fence.wide.inRound l) n P md ops Q fuel listed (zM ops v js a0) w:=by
 unfold CN at hB;simp only [ES,FN,EQ,FK,Bool.not_eq_true',Fd] at hB;obtain ⟨⟨⟨h1,h2⟩,h3⟩,h4⟩:=hB
 have hD:Dist ops js:=fun j hj k L b3 he=>by
  rcases h4 j hj k L with (h | h) | h
  ·exact absurd h b3
  ·exact absurd he h
  ·exact h
 have U:∀listed:Array Bool,(∀k,listed.getD k true=true)->(fun k=>listed.getD k true)=fun _=>true:=fun listed h=>funext h
 have O:∀listed:Array Bool,listed.size=ops.size->(∀k,listed.getD k true=false->k∈js)->Region.ready md ops listed=[]->∀k,listed.getD k true=true:=by
  intro listed T z hr
  have L:∀n k,k<n->listed.getD k true=true:=by
   intro n
   induction n with
   | zero=>intro k h;omega
   | succ n ih=>
    intro k d4
    cases hv:listed.getD k true with
    | true=>rfl
    | false=>
     exfalso
     have G:=h3 k (z k hv)
     have V:k∈Region.ready md ops listed:=mem_ready.2 ⟨hv,ops[k],Array.getElem?_eq_getElem G,fun e he hb=>by
      have:=h1 k (FI.2 G);rw [Array.getElem?_eq_getElem G] at this;have h5:=(FN.1 this) e (by simpa using he);simp only [FK,Bool.not_eq_true',EQ] at h5
      have h6:e.on<k:=by
       rcases h5 with h5 | h5
       ·rw [hb] at h5;cases h5
       ·exact h5
      have h7:=ih e.on (by omega);have h8:e.on<listed.size:=by omega
      simp only [Array.getD,h8,dif_pos] at h7⊢;exact h7⟩
     rw [hr] at V;cases V
  exact fun k=>L (k+1) k (by omega)
 intro fuel
 induction fuel with
 | zero=>
  intro listed v w T z hc hJ
  have hf:∀k,listed.getD k true=true:=fun k=>by
   cases hv:listed.getD k true with
   | true=>rfl
   | false=>
    exfalso
    have:k∈js.filter fun k=>!listed.getD k true:=FG.2 ⟨z k hv,by rw [hv];rfl⟩
    rw [EX (Nat.le_zero.1 hc)] at this;cases this
  refine ⟨?_,fin v w (by rw [<-U listed hf];exact hJ)⟩;apply List.eq_nil_iff_forall_not_mem.2;intro j hj;have:=(mem_ready.1 hj).1;rw [hf j] at this;cases this
 | succ fuel ih=>
  intro listed v w T z hc hJ;refine ⟨fun hr=>fin v w (by rw [<-U listed (O listed T z hr)];exact hJ),fun i hi=>?_⟩;obtain ⟨a2,o,ho,a1⟩:=mem_ready.1 hi;have E:=z i a2;refine wpOpIn_step l n a9 ho fun K' hK=>?_
  have G:i<listed.size:=by have:=h3 i E;omega
  refine step i E (fun k=>listed.getD k true) v w hJ a2 (fun o' M d hd hb=>?_) o ho K' fun a' x w' ha c6 a4=>?_
  ·rw [ho] at M;injection M with M;subst M;have h9:=a1 d hd hb;by_cases a3:d.on<listed.size
   ·simp only [Array.getD,a3,dif_pos] at h9⊢;exact h9
   ·simp only [Array.getD,a3,dif_neg,not_false_eq_true] at h9;cases h9
  ·refine hK _ _ ?_
   have I:Ao (fun k=>listed.getD k true) i true=fun k=>(listed.setIfInBounds i true).getD k true:=by
    funext k;by_cases L:k=i
    ·subst L;rw [BI];simp [Array.getD,G]
    ·rw [Ah _ _ L];simp only [Array.getD,Array.size_setIfInBounds]
     split
     ·rename_i h
      show listed[k]=(listed.setIfInBounds i true)[k]'(by simpa using h);rw [Array.getElem_setIfInBounds,if_neg (Ne.symm L)]
     ·rfl
   rw [I] at a4;rw [<-ha,putAll_set v i x js a0 h2 hD E];refine ih (listed.setIfInBounds i true) (Ao v i x) w' (by simpa using T) (fun k L=>?_) ?_ a4
   ·by_cases D:k=i
    ·rw [D];exact E
    ·have:=congrFun I k;rw [Ah _ _ D] at this;exact z k (this.trans L)
   ·have b1:(js.filter fun k=>!(listed.setIfInBounds i true).getD k true)=(js.filter fun k=>!listed.getD k true).erase i:=by
     rw [List.Nodup.erase_eq_filter (h2.filter _),List.filter_filter];apply List.filter_congr;intro k L;have:=congrFun I k;rw [<-this];by_cases D:k=i
     ·subst D;simp [BI]
     ·rw [Ah _ _ D];simp [D]
    rw [b1,List.length_erase_of_mem (FG.2 ⟨E,by show (!listed.getD i true)=true;rw [a2];rfl⟩)];omega
theorem wpAnyIn_by_inv (l n:Nat) (G:noDeferB ops=true) (js:List Nat) (J:(Nat->Bool)->(Nat->Value)->World->Prop) (D:CN md ops js=true) (E:leftB ops listed js=true) (M:js.length<=fuel)
  (init:∀e v,(∀j∈js,e j=false)->J e v w)
  (I:(js.all fun j=>!listed.getD j true)=true)
  (step:∀j∈js,∀e v w,J e v w->e j=false->(∀o,ops[j]?=some o->∀d∈o.after,Region.binds md d=true->e d.on=true)->∀o,ops[j]?=some o->∀K:Act->World->Prop,Hid (StepTo ops (fun _=>True) J js a0 j e v K)->
   if Region.wanted o (yielded ops (zM ops v js a0).tmps)=true then Oper.wp P o (zM ops v js a0) w K Q else K ((zM ops v js a0).put o.dst undef) w)
  (fin:∀v w,J (fun _=>true) v w->Q .normal (zM ops v js a0) w):wpAnyIn (Fence.wide.inRound l) n P md ops Q fuel listed a0 w:=by
 unfold leftB at E;simp only [ES,FN,EQ,FK] at E
 have T:js.Nodup:=by
  unfold CN at D;simp only [ES,EQ] at D;exact D.1.1.2
 obtain ⟨v,U⟩:=Ep (ops:=ops) a0 js T
 have h:=wpAnyIn_inv l n G D step fin fuel listed v w E.1 (fun k L=>by
  by_cases z:k<listed.size
  ·rcases E.2 k (FI.2 z) with h | h
   ·rw [L] at h;cases h
   ·exact h
  ·simp [Array.getD,z] at L) (EI (Fi _ _) M) (init _ _ (fun j O=>by
   have:=FN.1 I j O;simpa using this))
 rwa [U] at h
end
section
variable {P:Program} {ops:Array Oper} {Q:Exit->Act->World->Prop} {md:Region.Mode} {S:World->Prop}
def StepToF (F:(Nat->Value)->Act) (d:Option Tmp) (S:World->Prop) (J:(Nat->Bool)->(Nat->Value)->World->Prop) (j:Nat) (e:Nat->Bool) (v:Nat->Value) (K:Act->World->Prop):Prop:=
 ∀a' x w',(F v).put d x=a'->S w'->J (Ao e j true) (Ao v j x) w'->K a' w'
def zg (P:Program) (ops:Array Oper) (Q:Exit->Act->World->Prop) (md:Region.Mode) (F:(Nat->Value)->Act) (S:World->Prop) (J:(Nat->Bool)->(Nat->Value)->World->Prop) (js:List Nat):Prop:=
 ∀j∈js,∀e v w,J e v w->S w->e j=false->∀o,ops[j]?=some o->(∀d∈o.after,Region.binds md d=true->e d.on=true)->∀K:Act->World->Prop,Hid (StepToF F o.dst S J j e v K)->
   if Region.wanted o (yielded ops (F v).tmps)=true then Oper.wp P o (F v) w K Q else K ((F v).put o.dst undef) w
theorem zg.nil {F:(Nat->Value)->Act} {J:(Nat->Bool)->(Nat->Value)->World->Prop}:zg P ops Q md F S J []:=fun _ h=>by cases h
theorem zg.cons {F:(Nat->Value)->Act} {J:(Nat->Bool)->(Nat->Value)->World->Prop} {j:Nat} {js:List Nat} {o:Oper} (L:ops[j]?=some o)
  (h:∀e v w (K:Act->World->Prop),J e v w->S w->e j=false->(∀d∈o.after,Region.binds md d=true->e d.on=true)->Hid (StepToF F o.dst S J j e v K)->
   if Region.wanted o (yielded ops (F v).tmps)=true then Oper.wp P o (F v) w K Q else K ((F v).put o.dst undef) w)
  (M:zg P ops Q md F S J js):zg P ops Q md F S J (j :: js):=by
 intro k hk;rcases Fw.1 hk with rfl | hk
 ·intro e v w D G he o' z I K E;rw [L] at z;injection z with z;subst z;exact h e v w K D G he I E
 ·exact M k hk
theorem BJ (js:List Nat) (J:(Nat->Bool)->(Nat->Value)->World->Prop) {F:(Nat->Value)->Act} (O:CN md ops js=true) (U:leftB ops listed js=true) (hf:js.length<=fuel) (z:S w)
  (hF:∀v,zM ops v js a0=F v) (init:∀e v,(∀j∈js,e j=false)->J e v w) (M:(js.all fun j=>!listed.getD j true)=true) (step:zg P ops Q md F S J js)
  (fin:∀v w,J (fun _=>true) v w->S w->Q .normal (F v) w):wpAnyH P md ops Q S fuel listed a0 w:=by
 refine wpAnyH_by_inv js J O U hf z init M (fun j hj e v w E z he hd o L K T=>?_) (fun v w E z=>by rw [hF v];exact fin v w E z);have D:Cc ops j=o.dst:=by unfold Cc;rw [L];rfl
 have h:=step j hj e v w E z he o L (hd o L) K (fun a' x w' V I G=>T.out a' x w' (by rw [hF v,D];exact V) I G);rw [hF v];exact h
theorem wpAnyIn_by_invF (l n:Nat) (G:noDeferB ops=true) (js:List Nat) (J:(Nat->Bool)->(Nat->Value)->World->Prop) {F:(Nat->Value)->Act} (O:CN md ops js=true) (U:leftB ops listed js=true) (hf:js.length<=fuel)
  (hF:∀v,zM ops v js a0=F v) (init:∀e v,(∀j∈js,e j=false)->J e v w) (M:(js.all fun j=>!listed.getD j true)=true) (step:zg P ops Q md F (fun _=>True) J js)
  (fin:∀v w,J (fun _=>true) v w->Q .normal (F v) w):wpAnyIn (Fence.wide.inRound l) n P md ops Q fuel listed a0 w:=by
 refine wpAnyIn_by_inv l n G js J O U hf init M (fun j hj e v w D he hd o L K T=>?_) (fun v w D=>by rw [hF v];exact fin v w D);have z:Cc ops j=o.dst:=by unfold Cc;rw [L];rfl
 have h:=step j hj e v w D trivial he o L (hd o L) K (fun a' x w' V I E=>T.out a' x w' (by rw [hF v,z];exact V) I E);rw [hF v];exact h
end
def GivesB {α:Type} (n:Nat) (P:Program) (g:Nat) (lb:Array Value) (encs:α->Array Value) (G:Nat->α->World->Prop) (N:Nat) (w:World):Prop:=
 ∀(l:Nat) (J:Nat->World->Prop) (Jx:World->Prop) (W:World),zb w W->w.heap.size<=l->l<W.heap.size->(∀k A B,J k A->Below W.heap.size A B->J k B)->(∀A B,Jx A->Below W.heap.size A B->Jx B)->
  (∀k x W1,k<N->J k W1->G k x W1->YieldAt Fence.wide (n - 1) P l (encs x) W1 fun e W'=>(e=.returned (.bool true)/\J (k+1) W'/\W1.grownBy W' (some l))\/(e=.returned (.bool false)/\Jx W'))->
  J 0 W->
  CallsIn Fence.wide n P g (#[.func (.yield l) #[] #[]]++lb) W fun e W'=>(∃v,e=.returned v)/\(J N W'\/Jx W')
def postB (B k:Nat) (I:Nat->World->Prop) (Ix:Code->World->Prop) (W:World):Exit->Act->World->Prop
 | .normal,_,W'=>zb W W'/\I (k+1) W'
 | .ret,_,W'=>(∀b,B<=b->b<W.heap.size->W'.heap[b]?=W.heap[b]?)/\Ix .ret W'
 | .exit id,_,W'=>(∀b,B<=b->b<W.heap.size->W'.heap[b]?=W.heap[b]?)/\Ix (.exit id) W'
 | .goto t,_,W'=>(∀b,B<=b->b<W.heap.size->W'.heap[b]?=W.heap[b]?)/\Ix (.goto t) W'
 | .panic _,_,_=>False
 | .outgrown,_,_=>False
theorem zG {l:Nat} {W:World} (o:Obj) (h:B<=l) (z:l<W.heap.size):Below B W (W.putObj l o):=
 (Below.refl B W).grown (grownBy_putObj' W l o) (by omega) (fun k e=>by cases e;exact h)
theorem wpIn_loopB {P:Program} {n:Nat} {α:Type} {g:Operand} {ps:Array Tmp} {assign body:Code} {Q:Exit->Act->World->Prop}
  {gf:Nat} {lb:Array Value} (hg:a.eval g=.func (.func gf) #[] lb) (eg:∀args w,(callFunc gf args).run P w=.ok (.enter gf args) w)
  {encs:α->Array Value} {G:Nat->α->World->Prop} {N:Nat} {w0:World} (b5:GivesB (n - 1) P gf lb encs G N w0) (b4:zb w0 w) (c5:∀x,(encs x).size=ps.size)
  (I:Nat->World->Prop) (Ix:Code->World->Prop) (hI:∀k A B,I k A->Below w.heap.size A B->I k B) (hIx:∀c A B,Ix c A->Below w.heap.size A B->Ix c B)
  (hG:∀k x A l,G k x A->w.heap.size<l->l<A.heap.size->(∃r,A.heap[l]?=some (.loop r))->∀o,G k x (A.putObj l o)) (h0:I 0 w) (a₁:α->Act)
  (a4:∀(l:Nat) (x:α) (W:World) (K:Act->World->Prop),K (a₁ x) W->
   assign.wpIn (Fence.wide.inRound l) (n - 1 - 1) P (Exit.then K (fun _ _ _=>False)) { tmps:=(ps.zip (encs x)).foldl (fun t (p,v)=>t.setIfInBounds p v) a.tmps,defers:=[] } W)
  (a8:∀(l k:Nat) (x:α) (W:World),k<N->I k W->G k x W->w.heap.size<W.heap.size->body.wpIn (Fence.wide.inRound l) (n - 1 - 1) P (postB w.heap.size k I Ix W) (a₁ x) W)
  (a9:∀(D:Nat) (W:World),w.heap.size<=D->I N W->W.heap[D]?=some (.deferred (some []))->Q .normal { a with defers:={ target:=.collected D,args:=#[] } :: a.defers } W)
  (b1:∀(D:Nat) (c:Code) (W:World),w.heap.size<=D->Ix c W->W.heap[D]?=some (.deferred (some []))->c.wpIn Fence.wide n P Q { a with defers:={ target:=.collected D,args:=#[] } :: a.defers } W):
  (Code.rangeFunc g ps assign body).wpIn Fence.wide n P Q a w:=by
 refine wpIn_rangeFunc ?_;intro fn b8;obtain ⟨rec,E⟩:∃rec:LoopState->Option Code->Loop,rec=fun st pe=>{ state:=st,pending:=pe,fn,tmps:=a.tmps,params:=ps,assign,body,defers:=w.heap.size }:=⟨_,rfl⟩
 obtain ⟨W1,a2⟩:∃W1,(w.alloc (.deferred (some []))).alloc (.loop (rec .ready none))=W1:=⟨_,rfl⟩;have c9:W1.heap.size=w.heap.size+2:=by rw [<-a2];simp
 have b7:W1.heap[w.heap.size+1]?=some (.loop (rec .ready none)):=by
  rw [<-a2];have:=World.alloc_heap_new (w.alloc (.deferred (some []))) (.loop (rec .ready none))
  rwa [World.size_alloc] at this
 have b6:W1.heap[w.heap.size]?=some (.deferred (some [])):=by
  rw [<-a2];exact (EY _ _ _ (by simp)).trans (World.alloc_heap_new w _)
 have b3:zb w W1:=by rw [<-a2];exact ((zb.refl w).alloc _).alloc _
 refine ⟨w.heap.size+1,[{ target:=.collected w.heap.size,args:=#[] }],W1,{ target:=.fn (.func gf) lb,args:=#[.func (.yield (w.heap.size+1)) #[] #[]] },W1,gf,
  #[.func (.yield (w.heap.size+1)) #[] #[]]++lb,W1,?_,?_,fun _ _=>trivial,?_,fun h=>absurd h (by simp [Fence.wide]),?_⟩
 ·rw [<-a2,E];exact run_enterLoop_outer _ _ _ _ _
 ·simp only [resolve,hg];simp [go_sem]
 ·simp [invoke,go_sem,eg]
 ·refine (b5 (w.heap.size+1)
   (fun k W=>I k W/\W.heap[w.heap.size+1]?=some (.loop (rec .ready none))/\W.heap[w.heap.size]?=some (.deferred (some []))/\w.heap.size+1<W.heap.size)
   (fun W=>∃c,Ix c W/\W.heap[w.heap.size+1]?=some (.loop (rec .done (some c)))/\W.heap[w.heap.size]?=some (.deferred (some [])))
   W1 (b4.trans b3) (by have:=b4.size;omega) (by omega) ?_ ?_ ?_ ⟨hI _ _ _ h0 b3,b7,b6,by omega⟩).mono ?_
  ·rintro k A B ⟨h1,h2,h3,h4⟩ L;exact ⟨hI _ _ _ h1 (L.mono (by omega)),(L.block _ (by omega)).trans h2,(L.block _ (by omega)).trans h3,Fh h4 L.size⟩
  ·rintro A B ⟨c,h1,h2,h3⟩ L;exact ⟨c,hIx _ _ _ h1 (L.mono (by omega)),(L.block _ (by omega)).trans h2,(L.block _ (by omega)).trans h3⟩
  ·-- one round
   rintro k x W c4 ⟨hi,hl,hD,a1⟩ c0;have hy:=run_yield (P:=P) (args:=encs x) hl (by rw [E];exact c5 x);rw [E] at hy;refine ⟨fn,_,assign,body,hy,roundIn_of_wpIn b8 (a4 _ x W _ ⟨_,run_beginRound hl (by rw [E]),?_⟩)⟩;have a5:(W.putObj (w.heap.size+1) (.loop { rec .ready none with state:=.busy })).heap[w.heap.size+1]?=some (.loop { rec .ready none with state:=.busy }):=World.putObj_heap_same a1;have a6:(W.putObj (w.heap.size+1) (.loop { rec .ready none with state:=.busy })).heap[w.heap.size]?=some (.deferred (some [])):=(World.putObj_heap_other (by omega)).trans hD;have O:w.heap.size+1<(W.putObj (w.heap.size+1) (.loop { rec .ready none with state:=.busy })).heap.size:=(FE.1 a5).1;have b9:W.grownBy (W.putObj (w.heap.size+1) (.loop { rec .ready none with state:=.busy })) (some (w.heap.size+1)):=grownBy_putObj' _ _ _;refine wpIn_mono (a8 _ k x _ c4 (hI _ _ _ hi (zG _ (by omega) a1)) (hG _ _ _ _ c0 (by omega) a1 ⟨_,hl⟩ _) (Nat.lt_trans (Nat.lt_succ_self _) O)) ?_;generalize W.putObj (w.heap.size+1) (.loop { rec .ready none with state:=.busy })=W2 at*
   have fin:∀(jump:Option Code) (W3:World),W3.heap[w.heap.size+1]?=some (.loop { rec .ready none with state:=.busy })->
     (Instr.endRound (w.heap.size+1) jump).run P W3=.ok (.bool jump.isNone) (W3.putObj (w.heap.size+1) (.loop (rec (if jump.isNone then .ready else .done) jump))):=fun jump W3 J=>by
    have:=run_endRound (P:=P) jump J;rw [E] at this⊢;exact this
   rintro e a3 W3 hp
   cases e with
   | normal=>
    obtain ⟨U,V⟩:=hp;have J:=(U.block _ O).trans a5;have z:=(FE.1 J).1;have T:=(U.block _ (by omega)).trans a6;refine ⟨_,_,fin none W3 J,.inl ⟨rfl,⟨hI _ _ _ V (zG _ (by omega) z),World.putObj_heap_same z,(World.putObj_heap_other (by omega)).trans T,?_⟩,?_⟩⟩
    ·exact (FE.1 (World.putObj_heap_same z)).1
    ·exact (b9.trans ⟨U.os,U.tape,U.output,U.size,fun i hi _=>U.block i hi⟩).trans (grownBy_putObj' _ _ _)
   | ret=>
    obtain ⟨M,V⟩:=hp;have J:=(M _ (by omega) O).trans a5;have z:=(FE.1 J).1;have T:=(M _ (EG _) (by omega)).trans a6;exact ⟨_,_,fin (some .ret) W3 J,.inr ⟨rfl,.ret,hIx _ _ _ V (zG _ (by omega) z),World.putObj_heap_same z,(World.putObj_heap_other (by omega)).trans T⟩⟩
   | exit id=>
    obtain ⟨M,V⟩:=hp;have J:=(M _ (by omega) O).trans a5;have z:=(FE.1 J).1;have T:=(M _ (EG _) (by omega)).trans a6;exact ⟨_,_,fin (some (.exit id)) W3 J,.inr ⟨rfl,.exit id,hIx _ _ _ V (zG _ (by omega) z),World.putObj_heap_same z,(World.putObj_heap_other (by omega)).trans T⟩⟩
   | goto t=>
    obtain ⟨M,V⟩:=hp;have J:=(M _ (by omega) O).trans a5;have z:=(FE.1 J).1;have T:=(M _ (EG _) (by omega)).trans a6;exact ⟨_,_,fin (some (.goto t)) W3 J,.inr ⟨rfl,.goto t,hIx _ _ _ V (zG _ (by omega) z),World.putObj_heap_same z,(World.putObj_heap_other (by omega)).trans T⟩⟩
   | panic ch=>exact hp.elim
   | outgrown=>exact hp.elim
  ·-- behind the iterator
   rintro e W2 ⟨⟨v,rfl⟩,(⟨hi,hl,hD,a1⟩ | ⟨c,hi,hl,hD⟩)⟩
   ·exact ⟨none,_,by have:=run_endLoop (P:=P) hl (by rw [E];simp);rw [E] at this;exact this,a9 _ _ (EG _) (hI _ _ _ hi (zG _ (by omega) a1)) ((World.putObj_heap_other (by omega)).trans hD)⟩
   ·have a1:=(FE.1 hl).1;exact ⟨some c,_,by have:=run_endLoop (P:=P) hl (by rw [E];simp);rw [E] at this;exact this,b1 _ c _ (EG _) (hIx _ _ _ hi (zG _ (by omega) a1)) ((World.putObj_heap_other (by omega)).trans hD)⟩
end
section
open Go.RowKit
attribute [local go_sem ↓] Go.wp_at_zero Go.wp_at_succ
theorem BK.freeCell {t:Nat} (h:BK w ok g m ch ps us f u ts vc vp gu) (U:∀f∈m.free,(f.length:Int)=m.n) (I:t<m.free.length) {n:Int} (h0:0<=n) (h1:n<m.n):
  ∃b off c b' off' l c',f=.slice (some ⟨b,off,none⟩) m.free.length c/\w.cell? ⟨b,off+t,none⟩=some (.slice (some ⟨b',off',none⟩) l c')/\n<(l:Int)/\l<=c'/\m.free.length<=c/\w.cell? ⟨b',off'+n.toNat,none⟩=some (.bool (zi m t n)):=by
 obtain ⟨fr',up',ts',he,D,_,_⟩:=h.maze;injection he with he;injection he with he;simp only [List.cons.injEq,and_true,true_and] at he;obtain ⟨rfl,rfl,rfl⟩:=he;obtain ⟨vsf,⟨Af,cf,rfl,M,a1⟩,O⟩:=D;obtain ⟨bf,off3,uf,rfl,_,G,J⟩:=Ai a1 O I I;have T:=U _ (EH I);obtain ⟨A4,c4,rfl,L,V⟩:=J;have E:n.toNat<(m.free[t]).length:=by omega
 obtain ⟨b4,off4,rfl,_,z⟩:=Cj V E E;have D:(m.free[t])[n.toNat]=zi m t n:=by simp [zi,I,E]
 rw [D] at z;exact ⟨bf,off3,cf,b4,off4,_,c4,rfl,G,by omega,L,M,z⟩
theorem cand1_calls (t:Nat) (n:Int) (w:World) (h:BK w ok g m ch ps us f u ts vc vp gu) (I:∀f∈m.free,(f.length:Int)=m.n) (ht:t<m.free.length)
  (T:w.cell? ⟨g1,0,none⟩=some (.pointer (some ⟨g,0,none⟩))) (U:w.cell? ⟨g2,0,none⟩=some (.int .i64 t)) (h0:0<=n) (h1:n<m.n):
  Calls Tryz.prog 104 #[.int .i64 n,.pointer (some ⟨g1,0,none⟩),.pointer (some ⟨g2,0,none⟩)] w fun e w'=>e=.returned (.bool (zi m t n && !decide (n∈us)))/\zK w w':=by
 obtain ⟨r0,r1,r2,r3,r4,r5,r6,r7,r8⟩:=h.rules;obtain ⟨b,off,c,b',off',l,c',rfl,O,hl,a1,V,E⟩:=h.freeCell I ht h0 h1;have J:=h.us;clear h I;have hx:=zb.refl w;have a4:(t:Int)<(m.free.length:Int):=by omega
 have a3:(0:Int)<=(t:Int):=by omega
 obtain ⟨fb,G⟩:=zad (zi m t n);rw [<-G] at E⊢;clear G h1;by_cases D:n∈us
 ·have M:=fun q=>look_t (J.below ((zb.refl w).drewN q)) D
  have L:=zh D;clear D;have z:Hid ((fb && !decide (n∈us))=false):=by show _=false;rw [EJ L.out];cases fb <;> rfl
  cases fb with
  | false=>
   go_enter Tryz.func104,Tryz.ntmps104
   go_wp2_with fail
   go_quiet (fail)
   go_wp2;go_ret;exact ⟨ze z.out.symm,(zK.refl w).more _⟩
  | true=>
   go_enter Tryz.func104,Tryz.ntmps104
   go_wp2_with fail
   go_quiet (fail)
   go_wp2;go_ret;exact ⟨ze z.out.symm,(zK.refl w).more _⟩
 ·have M:=fun q=>look_f (J.below ((zb.refl w).drewN q)) D
  have L:=zh D;clear D;have z:Hid ((fb && !decide (n∈us))=fb):=by show _=fb;rw [EK L.out];cases fb <;> rfl
  cases fb with
  | false=>
   go_enter Tryz.func104,Tryz.ntmps104
   go_wp2_with fail
   go_quiet (fail)
   go_wp2;go_ret;exact ⟨ze z.out.symm,(zK.refl w).more _⟩
  | true=>
   go_enter Tryz.func104,Tryz.ntmps104
   go_wp2_with fail
   go_quiet (fail)
   go_wp2;go_ret;exact ⟨ze z.out.symm,(zK.refl w).more _⟩
theorem left11_calls (t:Nat) (n:Int) (w:World) (h:BK w ok g m ch ps us f u ts vc vp gu) (I:∀f∈m.free,(f.length:Int)=m.n) (ht:t<m.free.length)
  (T:w.cell? ⟨g1,0,none⟩=some (.pointer (some ⟨g,0,none⟩))) (U:w.cell? ⟨g2,0,none⟩=some (.int .i64 t)) (h0:0<=n) (h1:n<m.n):
  Calls Tryz.prog 131 #[.int .i64 n,.pointer (some ⟨g1,0,none⟩),.pointer (some ⟨g2,0,none⟩)] w fun e w'=>e=.returned (.bool (!zi m t n || decide (n∈us)))/\zK w w':=by
 obtain ⟨r0,r1,r2,r3,r4,r5,r6,r7,r8⟩:=h.rules;obtain ⟨b,off,c,b',off',l,c',rfl,O,hl,a1,V,E⟩:=h.freeCell I ht h0 h1;have J:=h.us;clear h I;have hx:=zb.refl w;have a4:(t:Int)<(m.free.length:Int):=by omega
 have a3:(0:Int)<=(t:Int):=by omega
 obtain ⟨fb,G⟩:=zad (zi m t n);rw [<-G] at E⊢;clear G h1;by_cases D:n∈us
 ·have M:=fun q=>look_t (J.below ((zb.refl w).drewN q)) D
  have L:=zh D;clear D;have z:Hid ((!fb || decide (n∈us))=true):=by show _=true;rw [EJ L.out];cases fb <;> rfl
  cases fb with
  | false=>
   go_enter Tryz.func131,Tryz.ntmps131
   go_wp2_with fail
   go_quiet (fail)
   go_wp2;go_ret;exact ⟨ze z.out.symm,(zK.refl w).more _⟩
  | true=>
   go_enter Tryz.func131,Tryz.ntmps131
   go_wp2_with fail
   go_quiet (fail)
   go_wp2;go_ret;exact ⟨ze z.out.symm,(zK.refl w).more _⟩
 ·have M:=fun q=>look_f (J.below ((zb.refl w).drewN q)) D
  have L:=zh D;clear D;have z:Hid ((!fb || decide (n∈us))=!fb):=by show _=!fb;rw [EK L.out];cases fb <;> rfl
  cases fb with
  | false=>
   go_enter Tryz.func131,Tryz.ntmps131
   go_wp2_with fail
   go_quiet (fail)
   go_wp2;go_ret;exact ⟨ze z.out.symm,(zK.refl w).more _⟩
  | true=>
   go_enter Tryz.func131,Tryz.ntmps131
   go_wp2_with fail
   go_quiet (fail)
   go_wp2;go_ret;exact ⟨ze z.out.symm,(zK.refl w).more _⟩
theorem open1_calls {gs g5:Nat} {s:List Int} (n:Int) (w:World) (z:zF w gs s) (E:w.cell? ⟨g5,0,none⟩=some (.map (some gs))):
  Calls Tryz.prog 110 #[.int .i64 n,.pointer (some ⟨g5,0,none⟩)] w fun e w'=>e=.returned (.bool (decide (n∈s)))/\w=w':=by
 by_cases h:n∈s
 ·have D:=look_t z h;rw [EJ h];clear h z
  go_enter Tryz.func110,Tryz.ntmps110
  go_wp2;go_ret;exact ⟨rfl,rfl⟩
 ·have D:=look_f z h;rw [EK h];clear h z
  go_enter Tryz.func110,Tryz.ntmps110
  go_wp2;go_ret;exact ⟨rfl,rfl⟩
end
section
open Go.Shelf
def sortA_ren:Go.Shelf.Ren:=⟨fun | 5=>127 | 8=>135 | 7=>134 | 19=>145 | 20=>146 | 10=>136 | 11=>137 | 12=>138 | 13=>139 | 14=>140 | 15=>141 | 16=>142 | 17=>143 | 18=>144 | 30=>147 | 31=>148 | 32=>149 | 33=>150 | 34=>151 | 35=>152 | 40=>153 | n=>n,fun | 23=>23 | 25=>3 | 3=>3 | 32=>163 | 22=>23 | 0=>0 | 44=>171 | 46=>173 | 4=>4 | 36=>166 | 35=>165 | 41=>84 | 5=>5 | 9=>9 | 53=>174 | 57=>178 | 63=>180 | 64=>181 | n=>n,fun | n=>n⟩
theorem sortA:Go.Proofs.SlLaysM.n5 Tryz.prog sortA_ren:=by
 constructor
 all_goals try first | kernel_rfl | (intro _;kernel_rfl)
 exact ⟨Tryz.f127.name,by decide,by kernel_rfl⟩;exact ⟨Tryz.f134.name,by decide,by kernel_rfl⟩;exact ⟨Tryz.f136.name,by decide,by kernel_rfl⟩;exact ⟨Tryz.f137.name,by decide,by kernel_rfl⟩;exact ⟨Tryz.f138.name,by decide,by kernel_rfl⟩;exact ⟨Tryz.f139.name,by decide,by kernel_rfl⟩;exact ⟨Tryz.f140.name,by decide,by kernel_rfl⟩;exact ⟨Tryz.f141.name,by decide,by kernel_rfl⟩;exact ⟨Tryz.f142.name,by decide,by kernel_rfl⟩;exact ⟨Tryz.f143.name,by decide,by kernel_rfl⟩;exact ⟨Tryz.f144.name,by decide,by kernel_rfl⟩;exact ⟨Tryz.f147.name,by decide,by kernel_rfl⟩;exact ⟨Tryz.f150.name,by decide,by kernel_rfl⟩;exact ⟨Tryz.f151.name,by decide,by kernel_rfl⟩;exact ⟨Tryz.f152.name,by decide,by kernel_rfl⟩;exact ⟨Tryz.f153.name,by decide,by kernel_rfl⟩
def compactA_ren:Go.Shelf.Ren:=⟨fun | 43=>105 | n=>n,fun | 22=>23 | 23=>3 | 3=>3 | 4=>4 | 0=>0 | n=>n,fun | n=>n⟩
theorem compactA:Go.Proofs.SlLaysN.n43 Tryz.prog compactA_ren:=by
 constructor
 all_goals try first | kernel_rfl | (intro _;kernel_rfl)
 exact ⟨Tryz.f105.name,by decide,by kernel_rfl⟩
def dfIA_ren:Go.Shelf.Ren:=⟨fun | 10=>130 | 6=>82 | n=>n,fun | 22=>23 | 23=>3 | 25=>62 | 3=>3 | 4=>4 | 0=>0 | n=>n,fun | n=>n⟩
theorem dfIA:Go.Proofs.SlLaysH.n10 Tryz.prog dfIA_ren:=by
 constructor
 all_goals try first | kernel_rfl | (intro _;kernel_rfl)
 exact ⟨Tryz.f82.name,by decide,by kernel_rfl⟩;exact ⟨Tryz.f130.name,by decide,by kernel_rfl⟩
end
section
open Go.RowKit Go.Sort Go.Shelf
theorem holds_own {cap:Nat} (h:zD w B (.slice (some ⟨g,0,none⟩) l.length cap) l):Holds (Value.int .i64) w g 0 l.toArray:=by
 intro j D;have z:j<l.length:=by simpa using D
 refine ⟨?_,by have:=World.ownsRow.frozenAt h j;simpa using this⟩;have:=World.ownsRow.cellAt h j (by omega);rw [Nat.zero_add,this];simp [getElem!_pos,z]
def BH (l:List Int):List Int:=l.mergeSort fun x y=>decide (x<=y)
theorem sort_calls (h:Mk w1 w v l) (U:l.length<=1000000000000):Calls Tryz.prog 127 #[v] w fun e w'=>e=.returned (.tuple #[])/\Mk w1 w' v (BH l):=by
 have z:(BH l).length=l.length:=by unfold BH;rw [List.length_mergeSort]
 rcases Fs l.length with h0 | h0
 ·have E:=EX h0;subst E;obtain ⟨A,c,rfl,_⟩:=h.slice;have D:=AnyM.slices_Sort_int_none sortA A c w;change Calls Tryz.prog 127 _ _ _ at D;refine Calls.mono D ?_;rintro e w' ⟨rfl,rfl⟩;exact ⟨rfl,h.cast (by simp [BH])⟩
 ·obtain ⟨g,cap,rfl,T,I⟩:=World.ownsRow.form h.own h0;have D:=AnyM.slices_Sort_int sortA g 0 cap l w (holds_own h.own) I (by omega);change Calls Tryz.prog 127 _ _ _ at D;refine Calls.mono D ?_;rintro e w' ⟨rfl,n,os,rfl⟩;refine ⟨rfl,?_,?_⟩
  ·obtain ⟨_,⟨e0,_⟩ | ⟨g',cap',cur,e0,L,G,M,hm,O,V⟩⟩:=h.own
   ·cases e0
   ·injection e0 with e1 _ e3;injection e1 with e1;injection e1 with e1;subst e1;subst e3;have:=ownsRow_sortedI (n:=n) (os:=os) (w:=w) (ss:=l) (ts:=BH l) z L G M hm O;unfold zD;rw [z];exact this
  ·exact Below.grown h.ext (grownBy_sortedI _) h.ext.size (fun k J=>by injection J with J;omega)
theorem compact_calls (h:Mk w1 w v l) (L:l.length<=1000000000000):Calls Tryz.prog 105 #[v] w fun e w'=>∃v',e=.returned v'/\Mk w1 w' v' (Lib.compact l):=by
 rcases Fs l.length with h0 | h0
 ·have E:=EX h0;subst E;obtain ⟨A,c,rfl,_⟩:=h.slice;have z:=AnyG.slices_Compact_int_empty compactA A c w;change Calls Tryz.prog 105 _ _ _ at z;refine Calls.mono z ?_;rintro e w' ⟨rfl,rfl⟩;exact ⟨_,rfl,h⟩
 ·obtain ⟨g,cap,rfl,I,J⟩:=World.ownsRow.form h.own h0;have D:=Ck h.own;have z:=AnyG.slices_Compact_int compactA g 0 cap l w (holds_own h.own) (by omega) D;change Calls Tryz.prog 105 _ _ _ at z;refine Calls.mono z ?_;rintro e w' ⟨rfl,q,rfl⟩
  have G:(Lib.compact l).length<=l.length:=by
   unfold Lib.compact Lib.compactUpTo;rw [Fr];exact EI (Fi _ _) (by simp)
  refine ⟨_,rfl,?_,?_⟩
  ·have:=Lib.ownsRow_putRow (enc:=Value.int .i64) (q:=q) (k:=(Lib.compact l).length) (ys:=Lib.compact l++List.replicate (l.length - (Lib.compact l).length) 0) h.own (by simp;omega) G;rw [List.take_left'] at this
   ·exact this
   ·rfl
  ·exact Lib.below_putRow h.ext I
theorem values_calls (A:Option Addr) (n c:Nat) (w:World):Calls Tryz.prog 107 #[.slice A n c] w fun e w'=>e=.returned (.func (.func 128) #[] #[.pointer (some ⟨w.heap.size,0,none⟩)])/\w'=w.alloc (.cells #[.slice A n c] 23):=by
 go_enter Tryz.func107,Tryz.ntmps107
 go_wp2_with fail
 go_ret;exact ⟨rfl,rfl⟩
theorem collect_calls (Bs:Nat) (w:World) (E:w.cell? ⟨Bs,0,none⟩=some v) (h:zj w ok v l) (z:l.length<=1000000000000):
  Calls Tryz.prog 126 #[.func (.func 128) #[] #[.pointer (some ⟨Bs,0,none⟩)]] w fun e w'=>∃v',e=.returned v'/\Mk w w' v' l:=by
 have H:=zh (appendSeq_calls Bs w E h z);clear h E
 go_enter Tryz.func126,Tryz.ntmps126
 go_wp2_with fail
 refine H.out.mono ?_;rintro e w' ⟨v',rfl,D⟩;have G:=zh D;clear D
 go_wp2_with fail
 go_ret;exact ⟨_,rfl,G.out⟩
theorem sorted_calls (Bs:Nat) (w:World) (G:w.cell? ⟨Bs,0,none⟩=some v) (h:zj w ok v l) (z:l.length<=1000000000000):
  Calls Tryz.prog 106 #[.func (.func 128) #[] #[.pointer (some ⟨Bs,0,none⟩)]] w fun e w'=>∃v',e=.returned v'/\Mk w w' v' (BH l):=by
 have H:=zh (collect_calls Bs w G h z);clear h G
 go_enter Tryz.func106,Tryz.ntmps106
 go_wp2_with fail
 refine H.out.mono ?_;rintro e w' ⟨v',rfl,E⟩;have J:=zh (sort_calls E z);clear E
 go_wp2_with fail
 refine J.out.mono ?_;rintro e w2 ⟨rfl,D⟩;have I:=zh D;clear D
 go_wp2_with fail
 go_ret;exact ⟨_,rfl,I.out⟩
end
end Go.Proofs.YthbjngbhbbkkgaaGreat
