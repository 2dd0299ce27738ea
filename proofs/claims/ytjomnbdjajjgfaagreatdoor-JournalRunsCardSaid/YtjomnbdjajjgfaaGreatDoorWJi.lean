import Derived.Test.YtjomnbdjajjgfaaGreatDoorWJg
import Derived.KernelRfl
import Derived.Deep.RegionHeld
import Derived.Test.YtjomnbdjajjgfaaGreatDoorRows
import Derived.Deep.AppendLies
set_option linter.unusedVariables false
set_option linter.unusedSimpArgs false
set_option maxRecDepth 100000
set_option maxHeartbeats 16000000
namespace Go.Proofs.YtjomnbdjajjgfaaGreatDoor
variable {a:Act} {l:Array Bool} {x y z:Int} {acc ch:List Int} {c g i k n:Nat} {Y ok okc:Nat->Prop} {o oi:Oper} {vc:Value} {W w:World}
section
open Go.RowKit
def CA (m:MZ) (t:Nat) (us acc:List Int) (z:Int):List Int:=if (zj m t z && !decide (z∈us) && !decide (z∈acc))=true then acc++[z] else acc
def growX (m:MZ) (t:Nat) (us S:List Int):List Int:=(S.flatMap (zp m)).foldl (CA m t us) S
def growN (m:MZ) (t:Nat) (us:List Int):Nat->List Int->List Int
 | 0,S=>S
 | k+1,S=>growN m t us k (growX m t us S)
def start (m:MZ) (f:List Int):List Int:=f.foldl (fun acc x=>if (decide (0<=x) && decide (x<m.n) && !decide (x∈acc))=true then acc++[x] else acc) []
def reachX (m:MZ) (t:Nat) (f us:List Int):List Int:=growN m t us (m.n.toNat+1) (start m f)
section
variable {m:MZ} {t:Nat} {us f:List Int}
structure GK (m:MZ) (t:Nat) (f us S:List Int):Prop where
 nd:S.Nodup
 rg:∀x∈S,0<=x/\x<m.n
 rp:∀x∈S,RP m t f us x
theorem addIf_sub (acc:List Int) (z:Int):∀x∈acc,x∈CA m t us acc z:=by
 intro x D;unfold CA
 split
 ·exact List.mem_append_left _ D
 ·exact D
theorem addIf_len (acc:List Int) (z:Int):acc.length<=(CA m t us acc z).length:=by
 unfold CA
 split <;> simp
theorem addIf_gk (h:GK m t f us acc) (h0:0<=z/\z<m.n) (h1:zj m t z=true->z∉us->RP m t f us z):GK m t f us (CA m t us acc z):=by
 unfold CA
 split
 ·rename_i D
  simp only [FK,Bool.not_eq_true',zai] at D;refine ⟨?_,fun x hx=>?_,fun x hx=>?_⟩
  ·rw [List.nodup_append];refine ⟨h.nd,by simp,fun a G b E=>?_⟩;rw [zar] at E;rintro rfl;subst E;exact D.2 G
  ·rcases za0.1 hx with hx | hx
   ·exact h.rg x hx
   ·rw [zar] at hx;subst hx;exact h0
  ·rcases za0.1 hx with hx | hx
   ·exact h.rp x hx
   ·rw [zar] at hx;subst hx;exact h1 D.1.1 D.1.2
 ·exact h
theorem fold_sub:∀(l acc:List Int),∀x∈acc,x∈l.foldl (CA m t us) acc
 | [],acc,x,D=>D
 | z :: l,acc,x,D=>fold_sub l (CA m t us acc z) x (addIf_sub acc z x D)
theorem fold_len:∀(l acc:List Int),acc.length<=(l.foldl (CA m t us) acc).length
 | [],acc=>Fy _
 | z :: l,acc=>FA (addIf_len acc z) (fold_len l _)
theorem fold_gk:∀(l acc:List Int),GK m t f us acc->(∀z∈l,(0<=z/\z<m.n)/\(zj m t z=true->z∉us->RP m t f us z))->GK m t f us (l.foldl (CA m t us) acc)
 | [],acc,h,_=>h
 | z :: l,acc,h,D=>fold_gk l _ (addIf_gk h (D z (zaw ..)).1 (D z (zaw ..)).2) (fun x E=>D x (zaf _ E))
theorem grow_gk (d:Dim m) {S:List Int} (h:GK m t f us S):GK m t f us (growX m t us S):=by
 refine fold_gk _ _ h fun z I=>?_
 obtain ⟨y,G,E⟩:=List.mem_flatMap.1 I;have D:=h.rg y G;exact ⟨Co d D.1 D.2 E,fun h1 h2=>(h.rp y G).step E h1 h2⟩
def Closed (m:MZ) (t:Nat) (us S:List Int):Prop:=∀y∈S,∀z∈zp m y,zj m t z=true->z∉us->z∈S
theorem addIf_eq (h:zj m t z=true->z∉us->z∈acc):CA m t us acc z=acc:=by
 unfold CA;rw [if_neg];intro D;simp only [FK,Bool.not_eq_true',zai] at D;exact D.2 (h D.1.1 D.1.2)
theorem fold_eq:∀(l acc:List Int),(∀z∈l,zj m t z=true->z∉us->z∈acc)->l.foldl (CA m t us) acc=acc
 | [],acc,_=>rfl
 | z :: l,acc,h=>by
  rw [List.foldl_cons,addIf_eq (h z (zaw ..))];exact fold_eq l acc (fun x D=>h x (zaf _ D))
theorem grow_closed {S:List Int} (h:Closed m t us S):growX m t us S=S:=
 fold_eq _ _ fun z G=>by
  obtain ⟨y,E,D⟩:=List.mem_flatMap.1 G;exact h y E z D
theorem fold_more:∀(l acc:List Int),(∃z∈l,zj m t z=true/\z∉us/\z∉acc)->acc.length<(l.foldl (CA m t us) acc).length
 | z :: l,acc,⟨x,hx,h1,h2,h3⟩=>by
  rw [List.foldl_cons];rcases zaz.1 hx with rfl | hx
  ·have:(CA m t us acc x).length=acc.length+1:=by
    unfold CA;rw [if_pos (by simp [h1,h2,h3])];simp
   have:=fold_len (m:=m) (t:=t) (us:=us) l (CA m t us acc x);omega
  ·by_cases D:x∈CA m t us acc z
   ·have h4:acc.length<(CA m t us acc z).length:=by
     unfold CA at D⊢
     split
     ·simp
     ·rename_i E;rw [if_neg E] at D;exact absurd D h3
    exact zam h4 (fold_len l _)
   ·exact Nat.lt_of_le_of_lt (addIf_len acc z) (fold_more l _ ⟨x,hx,h1,h2,D⟩)
theorem growN_gk (d:Dim m):∀(k:Nat) {S:List Int},GK m t f us S->GK m t f us (growN m t us k S)
 | 0,S,h=>h
 | k+1,S,h=>growN_gk d k (grow_gk d h)
theorem growN_sub:∀(k:Nat) (S:List Int),∀x∈S,x∈growN m t us k S
 | 0,S,x,D=>D
 | k+1,S,x,D=>growN_sub k _ x (fold_sub _ _ x D)
theorem growN_closed {S:List Int} (h:Closed m t us S):∀k,growN m t us k S=S
 | 0=>rfl
 | k+1=>by unfold growN;rw [grow_closed h];exact growN_closed h k
theorem growN_or:∀(k:Nat) (S:List Int),Closed m t us (growN m t us k S)\/S.length+k<=(growN m t us k S).length
 | 0,S=>.inr (Fy _)
 | k+1,S=>by
  by_cases h:Closed m t us S
  ·left
   rw [growN_closed h];exact h
  ·have h1:S.length<(growX m t us S).length:=by
    refine fold_more _ _ ?_;unfold Closed at h;simp only [Classical.not_forall] at h;obtain ⟨y,D,z,E,h1,h2,h3⟩:=h;exact ⟨z,List.mem_flatMap.2 ⟨y,D,E⟩,h1,h2,h3⟩
   rcases growN_or k (growX m t us S) with h2 | h2
   ·exact .inl h2
   ·right
    unfold growN;omega
theorem start_gk (m:MZ) (t:Nat) (us f:List Int):GK m t f us (start m f)/\∀x∈f,0<=x->x<m.n->x∈start m f:=by
 have key:∀(l acc:List Int),(∀x∈l,x∈f)->GK m t f us acc->GK m t f us (l.foldl (fun acc x=>if (decide (0<=x) && decide (x<m.n) && !decide (x∈acc))=true then acc++[x] else acc) acc)/\
   (∀x∈acc,x∈l.foldl (fun acc x=>if (decide (0<=x) && decide (x<m.n) && !decide (x∈acc))=true then acc++[x] else acc) acc)/\∀x∈l,0<=x->x<m.n->x∈l.foldl (fun acc x=>if (decide (0<=x) && decide (x<m.n) && !decide (x∈acc))=true then acc++[x] else acc) acc:=by
  intro l
  induction l with
  | nil=>intro acc _ h;exact ⟨h,fun x hx=>hx,fun x hx=>by cases hx⟩
  | cons z l ih=>
   intro acc E h;rw [List.foldl_cons];by_cases D:(decide (0<=z) && decide (z<m.n) && !decide (z∈acc))=true
   ·rw [if_pos D];simp only [FK,Bool.not_eq_true',zai,FI] at D
    obtain ⟨h1,h2,h3⟩:=ih (acc++[z]) (fun x hx=>E x (zaf _ hx)) ⟨by
     rw [List.nodup_append];refine ⟨h.nd,by simp,fun a I b G=>?_⟩;rw [zar] at G;rintro rfl;subst G;exact D.2 I,fun x hx=>by
     rcases za0.1 hx with hx | hx
     ·exact h.rg x hx
     ·rw [zar] at hx;subst hx;exact D.1,fun x hx=>by
     rcases za0.1 hx with hx | hx
     ·exact h.rp x hx
     ·rw [zar] at hx;subst hx;exact RP.base (E x (zaw ..)) D.1.1 D.1.2⟩
    refine ⟨h1,fun x hx=>h2 x (List.mem_append_left _ hx),fun x hx a b=>?_⟩;rcases zaz.1 hx with rfl | hx
    ·exact h2 x (by simp)
    ·exact h3 x hx a b
   ·rw [if_neg D];obtain ⟨h1,h2,h3⟩:=ih acc (fun x hx=>E x (zaf _ hx)) h;refine ⟨h1,h2,fun x hx a b=>?_⟩;rcases zaz.1 hx with rfl | hx
    ·refine h2 x ?_;simp only [FK,Bool.not_eq_true',zai,FI] at D;by_cases hm:x∈acc
     ·exact hm
     ·exact absurd ⟨⟨a,b⟩,hm⟩ D
    ·exact h3 x hx a b
 have h:=key f [] (fun _ h=>h) ⟨List.nodup_nil,fun x hx=>absurd hx za8,fun x hx=>absurd hx za8⟩;exact ⟨h.1,h.2.2⟩
theorem mem_reachX (d:Dim m) (x:Int):x∈reachX m t f us↔RP m t f us x:=by
 have G:=start_gk m t us f;have D:=growN_gk (t:=t) (f:=f) (us:=us) d (m.n.toNat+1) G.1
 have I:Closed m t us (reachX m t f us):=by
  rcases growN_or (m:=m) (t:=t) (us:=us) (m.n.toNat+1) (start m f) with h | h
  ·exact h
  ·have:=Cf D.nd m.n D.rg;omega
 constructor
 ·exact fun h=>D.rp x h
 ·intro h;exact h (fun x=>x∈reachX m t f us) (fun y E h0 h1=>growN_sub _ _ y (G.2 y E h0 h1)) (fun y z E J h1 h2=>I y E z J h1 h2)
end
def openTX (m:MZ) (ps:List (List Int)) (us:List Int) (t:Nat):Bool:=((m.tasks.getD t ([],[])).2).any fun x=>decide (x∈reachX m t (Bb m ps us t) us)
def openX (m:MZ) (ch:List Int):Bool:=(List.range (tasksN m (zS m ch))).all fun k=>openTX m (zS m ch) ch ((zS m ch).length - 1+k)
theorem openC_x {m:MZ} (d:Dim m) (ch:List Int):AA m ch=openX m ch:=by
 unfold AA openX openB;congr 1;funext k;unfold DA openTX;congr 1;funext x;rw [decide_eq_decide,CN d,mem_reachX d]
def aftX (m:MZ) (ch:List Int) (last:Int):Option Int:=(Bn m ch).find? fun n=>decide (last<n) && openX m (ch++[n])
theorem aft_x {m:MZ} (d:Dim m) (ch:List Int) (last:Int):aft m ch last=aftX m ch last:=by
 unfold aft aftX;congr 1;funext n;rw [openC_x d]
def backX (m:MZ) (ch:List Int):Nat->Option (List Int)
 | 0=>none
 | k+1=>match aftX m (ch.take k) (ch.getD k 0) with
  | some n=>some (ch.take k++[n])
  | none=>backX m ch k
theorem back_x {m:MZ} (d:Dim m) (ch:List Int):∀k,backN m ch k=backX m ch k
 | 0=>rfl
 | k+1=>by
  unfold backN backX;rw [aft_x d,back_x d ch k]
  all_goals rfl
def stepX (m:MZ) (ch:List Int):Option (List Int):=
 match aftX m ch (-1) with
 | some n=>some (ch++[n])
 | none=>backX m ch ch.length
theorem step_x {m:MZ} (d:Dim m) (ch:List Int):DE m ch=stepX m ch:=by
 unfold DE stepX;rw [aft_x d,back_x d]
 all_goals rfl
def RS.oneX (m:MZ) (s:RS):RS:=match stepX m s.ch with
 | some c=>⟨c,zV m c,s.steps+1⟩
 | none=>⟨[],true,s.steps+1⟩
def RS.runX (m:MZ):Nat->RS->RS
 | 0,s=>s
 | n+1,s=>if s.done=true then s else RS.runX m n (s.oneX m)
theorem run_x {m:MZ} (d:Dim m):∀(n:Nat) (s:RS),RS.run m n s=RS.runX m n s
 | 0,s=>rfl
 | n+1,s=>by
  unfold RS.run RS.runX;rw [run_x d n];unfold RS.one RS.oneX;rw [step_x d]
  all_goals rfl
theorem reachL_pw (m:MZ) (t:Nat) (f us:List Int):(Cq m t f us).Pairwise (·<·):=by
 unfold Cq;apply List.Pairwise.filter;rw [List.pairwise_map];exact List.Pairwise.imp (fun h=>by simpa using h) List.pairwise_lt_range
theorem good_chk {m:MZ} (g:zZ m):AV m=0:=by
 have d:=g.dim
 have E:[m.w,m.h,m.l].any side=false:=by
  have h1:=d.w1;have h2:=d.w2;have h3:=d.h1;have h4:=d.h2;have G:=d.l1;have I:=d.l2;simp [side];omega
 unfold AV;rw [E,if_neg (by simp),if_neg (by have:=d.n1;have:=g.tk;unfold MZ.n;omega),if_neg,if_neg]
 ·intro h;obtain ⟨t,ht,h1⟩:=zaE.1 h;rw [zaD] at h1;rcases h1 with h1 | h1
  ·obtain ⟨x,D,h2⟩:=zaE.1 h1;have:=g.tn t ht x (.inl D);simp [Ar] at h2;omega
  ·obtain ⟨x,D,h2⟩:=zaE.1 h1;have:=g.tn t ht x (.inr D);simp [Ar] at h2;omega
 ·intro h;rcases h with h | h | h
  ·exact h g.fl
  ·exact h d.up
  ·obtain ⟨f,hf,h2⟩:=zaE.1 h;have:=g.fn f hf;simp at h2;exact h2 this
end
section
open Go
section
variable {P:Program} {ops:Array Oper} {Q:Exit->Act->World->Prop} {md:Region.Mode} {S:World->Prop}
def BM (P:Program) (md:Region.Mode) (ops:Array Oper) (Q:Exit->Act->World->Prop) (S:World->Prop):Nat->Array Bool->Act->World->Prop
 | 0,l,a,w=>Region.ready md ops l=[]/\Q .normal a w
 | n+1,l,a,w=>(Region.ready md ops l=[]->Q .normal a w)/\
  ∀i∈Region.ready md ops l,wpOp P ops Q i (fun a' w'=>((∀k,(l.setIfInBounds i true).getD k true=true)\/S w')/\BM P md ops Q S n (l.setIfInBounds i true) a' w') a w
theorem wpAny_of_last:∀(n:Nat) (l:Array Bool) (a:Act) (w:World),BM P md ops Q S n l a w->wpAny P md ops Q n l a w
 | 0,_,_,_,h=>h
 | n+1,_,_,_,h=>⟨h.1,fun i E=>wpOp_mono (fun a' w' D=>wpAny_of_last n _ a' w' D.2) (h.2 i E)⟩
def waitB (md:Region.Mode) (ops:Array Oper) (l:Array Bool) (i:Nat):Bool:=(List.range ops.size).any fun k=>!(l.getD k true) && (match ops[k]? with | some o=>o.after.any (fun e=>Region.binds md e && e.on==i) | none=>false)
theorem wpAnyL_first {ok:Oper} {v:Value} (hi:ops[i]?=some oi) (hk:ops[k]?=some ok) (hw:∃e∈ok.after,Region.binds md e=true/\e.on=i)
  (M:∀(j:Nat) (o:Oper) cs b,ops[j]?=some o->o.op≠.select cs b) (hQ:∀c a w,Q (.panic c) (a.put oi.dst v) w->Q (.panic c) a w):
  ∀(n:Nat) (l:Array Bool) (a:Act) (w:World),l.getD k true=false->k≠i->
   (∀j oj,ops[j]?=some oj->j≠i->l.getD j true=false->(∀e∈oj.after,Region.binds md e=true->e.on≠i)->oi.apart ops oj=true)->
   i∈Region.ready md ops l->YieldsIf P ops S oi v a->S w->BM P md ops Q S n (l.setIfInBounds i true) (a.put oi.dst v) w->BM P md ops Q S (n+1) l a w:=by
 intro n
 induction n with
 | zero=>
  intro l a w _ _ _ O hy U H;refine ⟨fun h=>(by rw [h] at O;cases O),fun j hj=>?_⟩;by_cases D:j=i
  ·subst D;exact hy.wpOp hi U ⟨.inr U,H⟩
  ·have h:=ready_mono hj D;rw [H.1] at h;cases h
 | succ n ih=>
  intro l a w a5 a2 E O hy U H;refine ⟨fun h=>(by rw [h] at O;cases O),fun j hj=>?_⟩;by_cases D:j=i
  ·subst D;exact hy.wpOp hi U ⟨.inr U,H⟩
  ·have h1:=H.2 j (ready_mono hj D);obtain ⟨I,oj,G,a0⟩:=mem_ready.1 hj
   have J:∀e∈oj.after,Region.binds md e=true->e.on≠i:=fun e he hb q=>by
    have h1:=a0 e he hb;have h0:=(mem_ready.1 O).1;rw [q] at h1;rcases zah i l.size with h' | h'
    ·simp [h'] at h0 h1;rw [h0] at h1;cases h1
    ·simp [Array.getElem?_eq_none h'] at h1
   have a3:j≠k:=fun q=>by
    subst q;obtain ⟨e,he,hb,ho⟩:=hw;rw [hk] at G;injection G with G;subst G;exact J e he hb ho
   have h2:=wpOp_putIf G (E j oj G D I J) (fun cs b=>M i oi cs b hi) (fun cs b=>M j oj cs b G) hQ hy h1;have a6:(l.setIfInBounds j true).getD k true=false:=by rw [getD_set_ne true a3];exact a5
   refine wpOp_mono (fun a' w' h3=>?_) h2
   have V:S w':=h3.2.1.resolve_left fun q=>by
    have h:=q k;rw [getD_set_ne true a3,getD_set_ne true (Ne.symm a2),a5] at h;cases h
   refine ⟨.inr V,ih (l.setIfInBounds j true) a' w' a6 a2 (fun x ox hx a7 a8 a4=>?_) (ready_mono O (Ne.symm D)) h3.1 V ?_⟩
   ·by_cases a1:j=x
    ·subst a1;exact E j ox hx a7 I a4
    ·rw [getD_set_ne true a1] at a8;exact E x ox hx a7 a8 a4
   ·rw [Array.setIfInBounds_comm _ _ D];exact h3.2.2
theorem wpAnyL_take {v:Value} (U:ops[i]?=some oi) (hs:Region.noSelect ops=true) (hf:Region.free md ops l i=true) (hr:(Region.ready md ops l).contains i=true) (O:waitB md ops l i=true)
  (hQ:∀c a w,Q (.panic c) (a.put oi.dst v) w->Q (.panic c) a w) (hy:YieldsIf P ops S oi v a) (hS:S w) (h:BM P md ops Q S n (l.setIfInBounds i true) (a.put oi.dst v) w):BM P md ops Q S (n+1) l a w:=by
 unfold waitB at O;obtain ⟨k,-,V⟩:=zaE.1 O;rw [FK,Bool.not_eq_true'] at V;obtain ⟨h1,h2⟩:=V
 cases G:ops[k]? with
 | none=>rw [G] at h2;cases h2
 | some ok=>
  rw [G] at h2
  have hw:∃e∈ok.after,Region.binds md e=true/\e.on=i:=by
   obtain ⟨x,M,h3,h4⟩:=(by simpa using h2:∃x,∃h:x<ok.after.size,Region.binds md ok.after[x]=true/\ok.after[x].on=i);exact ⟨_,Array.getElem_mem M,h3,h4⟩
  have I:k≠i:=fun q=>by
   subst q;have J:k∈Region.ready md ops l:=by simpa using hr
   obtain ⟨h0,oj,D,E⟩:=mem_ready.1 J;rw [G] at D;injection D with D;subst D;obtain ⟨e,he,hb,M⟩:=hw;have h3:=E e he hb;rw [M] at h3;rcases zah k l.size with h' | h'
   ·simp [h'] at h0 h3;rw [h0] at h3;cases h3
   ·simp [Array.getElem?_eq_none h'] at h3
  exact wpAnyL_first U G hw (Region.noSelect_spec hs) hQ n l a w h1 I (Region.free_spec U hf) (by simpa using hr) hy hS h
def BE (P:Program) (md:Region.Mode) (ops:Array Oper) (Q:Exit->Act->World->Prop) (S:World->Prop) (n:Nat) (l:Array Bool) (a:Act) (w:World) (rs:List Nat):Prop:=
 ∀i∈rs,wpOp P ops Q i (fun a' w'=>((∀k,(l.setIfInBounds i true).getD k true=true)\/S w')/\BM P md ops Q S n (l.setIfInBounds i true) a' w') a w
theorem BE.nil:BE P md ops Q S n l a w []:=fun _ h=>by cases h
theorem BE.cons {n:Nat} {l:Array Bool} {a:Act} {w:World} {i:Nat} {o:Oper} {rs:List Nat} (G:ops[i]?=some o)
  (h:∀K':Act->World->Prop,Shut (∀a w,S w->(S w->BM P md ops Q S n (l.setIfInBounds i true) a w)->K' a w)->if Region.wanted o (yielded ops a.tmps)=true then Oper.wp P o a w K' Q else K' (a.put o.dst undef) w)
  (I:BE P md ops Q S n l a w rs):BE P md ops Q S n l a w (i :: rs):=fun j hj=>by
 rcases zaz.1 hj with rfl | hj
 ·exact wpOp_step G (fun K' E=>h K' (fun a w D hW=>E a w ⟨.inr D,hW D⟩))
 ·exact I j hj
theorem BE.last (I:ops[i]?=some o) (D:(l.setIfInBounds i true).all (fun b=>b)=true)
  (h:∀K':Act->World->Prop,Shut (∀a w,BM P md ops Q S n (l.setIfInBounds i true) a w->K' a w)->if Region.wanted o (yielded ops a.tmps)=true then Oper.wp P o a w K' Q else K' (a.put o.dst undef) w):BE P md ops Q S n l a w [i]:=fun j G=>by
 obtain rfl:=zar.1 G;refine wpOp_step I (fun K' E=>h K' (fun a w hW=>E a w ⟨.inl fun k=>?_,hW⟩));rw [Array.all_eq_true] at D;rcases zah k (l.setIfInBounds j true).size with h' | h'
 ·rw [Array.getD_eq_getD_getElem?,Array.getElem?_eq_getElem h'];exact D k h'
 ·rw [Array.getD_eq_getD_getElem?,Array.getElem?_eq_none h'];rfl
theorem ES {rs:List Nat} (E:Region.ready md ops l=rs) (D:rs≠[]) (h:BE P md ops Q S n l a w rs):BM P md ops Q S (n+1) l a w:=
 ⟨fun h0=>absurd (E ▸ h0) D,E ▸ h⟩
theorem zP (D:Region.ready md ops l=[]) (h:Q .normal a w):∀n,BM P md ops Q S n l a w
 | 0=>⟨D,h⟩
 | _+1=>⟨fun _=>h,by rw [D];simp⟩
theorem put_defers (a:Act) (d:Option Nat) (v:Value):(a.put d v).defers=a.defers:=by cases d <;> rfl
theorem AQ (i:Nat) {v:Value} (D:∀c (a a':Act) w,a.defers=a'.defers->Q (.panic c) a w->Q (.panic c) a' w) (E:S w)
  (h:BM P md ops Q S n (l.setIfInBounds i true) (a.put oi.dst v) w) (J:ops[i]?=some oi:=by rfl) (V:∀w,S w->(execOp a.eval oi).run P w=.ok (.value v) w:=by (intro w G;go_simp;try with_reducible rfl)) (U:Region.wanted oi (yielded ops a.tmps)=true:=by rfl)
  (O:Region.noSelect ops=true:=by kernel_rfl) (hf:Region.free md ops l i=true:=by kernel_rfl) (M:(Region.ready md ops l).contains i=true:=by kernel_rfl) (I:waitB md ops l i=true:=by kernel_rfl):BM P md ops Q S (n+1) l a w:=
 wpAnyL_take J O hf M I (fun c a' w' h=>D c _ a' w' (put_defers _ _ _) h) (.inl ⟨U,V⟩) E h
theorem rlU (i:Nat) (v:Value) (D:∀c (a a':Act) w,a.defers=a'.defers->Q (.panic c) a w->Q (.panic c) a' w) (E:S w)
  (U:∀w,S w->(execOp a.eval oi).run P w=.ok (.value v) w) (h:BM P md ops Q S n (l.setIfInBounds i true) (a.put oi.dst v) w) (I:ops[i]?=some oi:=by rfl) (O:Region.wanted oi (yielded ops a.tmps)=true:=by rfl)
  (M:Region.noSelect ops=true:=by kernel_rfl) (hf:Region.free md ops l i=true:=by kernel_rfl) (J:(Region.ready md ops l).contains i=true:=by kernel_rfl) (G:waitB md ops l i=true:=by kernel_rfl):BM P md ops Q S (n+1) l a w:=
 wpAnyL_take I M hf J G (fun c a' w' h=>D c _ a' w' (put_defers _ _ _) h) (.inl ⟨O,U⟩) E h
theorem EM (i:Nat)
  (h:∀K':Act->World->Prop,Shut (∀a w,S w->(S w->BM P md ops Q S n (l.setIfInBounds i true) a w)->K' a w)->if Region.wanted o (yielded ops a.tmps)=true then Oper.wp P o a w K' Q else K' (a.put o.dst undef) w)
  (D:ops[i]?=some o:=by rfl) (E:Region.ready md ops l=[i]:=by kernel_rfl):BM P md ops Q S (n+1) l a w:=ES E (by simp) (.cons D h .nil)
theorem rlZ (i:Nat)
  (h:∀K':Act->World->Prop,Shut (∀a w,BM P md ops Q S n (l.setIfInBounds i true) a w->K' a w)->if Region.wanted o (yielded ops a.tmps)=true then Oper.wp P o a w K' Q else K' (a.put o.dst undef) w)
  (E:ops[i]?=some o:=by rfl) (D:(l.setIfInBounds i true).all (fun b=>b)=true:=by kernel_rfl) (G:Region.ready md ops l=[i]:=by kernel_rfl):BM P md ops Q S (n+1) l a w:=ES G (by simp) (.last E D h)
theorem Cj {c:Code} (h:∀Q':Exit->Act->World->Prop,(∀c (a a':Act) w,a.defers=a'.defers->Q' (.panic c) a w->Q' (.panic c) a' w)->Q'=Q->c.wp P Q' a w) (hp:∀c (a a':Act) w,a.defers=a'.defers->Q (.panic c) a w->Q (.panic c) a' w:=by (intro c a a' w D h;obtain ⟨t,d⟩:=a;obtain ⟨t',d'⟩:=a';cases D;exact h)):c.wp P Q a w:=h Q hp rfl
theorem zB {id:Nat} (hm:P.follows .mixedOrders=true) (D:S w.drew) (h:S w.drew->BM P .any ops Q S ops.size (Array.replicate ops.size false) a w.drew):(Code.region id ops true).wp P Q a w:=
 wp_region_any hm (wpAny_of_last _ _ _ _ (h D))
end
end
section
open Go.RowKit
attribute [local go_sem ↓] Go.wp_at_zero Go.wp_at_succ
def isChB (m:MZ) (ch:List Int):Bool:=(List.range ch.length).all fun k=>decide (ch.getD k 0∈Bn m (ch.take k))
theorem isCh_of {m:MZ} {ch:List Int} (h:∀k,k<ch.length->ch.getD k 0∈Bn m (ch.take k)):∀k,k<=ch.length->zw m (ch.take k)
 | 0,_=>by simpa using zw.nil
 | k+1,D=>by
  rw [FF (by omega)];have h1:=h k (by omega);rw [Fx,Fw (by omega),zap] at h1;exact .snoc (isCh_of h k (by omega)) h1
theorem AX {m:MZ}:isChB m ch=true↔zw m ch:=by
 unfold isChB;rw [zaF];constructor
 ·intro h;have:=isCh_of (m:=m) (ch:=ch) (fun k D=>of_decide_eq_true (h k (zaB.2 D))) ch.length (Fy _)
  rwa [FJ] at this
 ·intro h k D;have D:=zaB.1 D;rw [FI,Fx,Fw D,zap];exact h.at D
noncomputable def loadE (m:MZ) (ch:List Int) (st:Int):Int:=
 if AV m≠0 then AV m else if st<0 then 1 else if (isChB m ch && (decide (ch=[]) || AA m ch))=true then 0 else 51
def loadS (m:MZ) (ch:List Int) (st:Int):RS:=⟨ch,zV m ch || (decide (ch=[]) && decide (0<st)),st⟩
theorem Bc.new {wb:World} {X Y ok:Nat->Prop} {p:Nat} {m:MZ} {st:Int} (E:Fu wb ok p m []) (D:∀b,ok b->b<wb.heap.size->X b\/Y b) (G:∀b,wb.heap.size<=b->X b) (I:∀b,Y b->b<wb.heap.size):
  Bc ((wb.alloc (.cells #[ptrV p] 198)).alloc (.cells #[.slice (some ⟨wb.heap.size,0,none⟩) 1 1,.bool false,.int .i64 st] 202)) X Y (wb.heap.size+1) wb.heap.size 1 m ⟨[],false,st⟩ [p]:=by
 have M:za wb ((wb.alloc (.cells #[ptrV p] 198)).alloc (.cells #[.slice (some ⟨wb.heap.size,0,none⟩) 1 1,.bool false,.int .i64 st] 202)):=((za.refl _).alloc _).alloc _;refine ⟨ze.new _ _ _ (by simp),G _ (by omega),G _ (by omega),by omega,fun h=>by have:=I _ h;omega,fun h=>by have:=I _ h;omega,?_,rfl,?_⟩
 ·exact ⟨rfl,.inr ⟨wb.heap.size,1,#[ptrV p],rfl,FN _,(ze.new wb _ _ rfl).alloc _,Fy _,by unfold maxLen;omega,rfl,rfl⟩⟩
 ·intro k p' hp
  match k,hp with
  | 0,hp=>
   have:p=p':=by simpa using hp
   subst this;refine (E.bound.ext M).weaken fun b J=>?_
   rcases D b J.1 J.2 with h | h
   ·exact .inl ⟨h,by omega,by omega⟩
   ·exact .inr h
def Dt (w:World) (Y:Nat->Prop) (m:MZ) (ch:List Int) (st:Int) (e:Ending) (w':World):Prop:=
 ∃v,e=.returned (.tuple #[v,.int .i64 (loadE m ch st)])/\za w w'/\
  ((loadE m ch st≠0/\v=.pointer none)\/(loadE m ch st=0/\zZ m/\zw m ch/\∃g gr cap pt,v=ptrV g/\Bc w' (fun b=>w.heap.size<=b) Y g gr cap m (loadS m ch st) pt))
structure LR (w wr:World) (Y:Nat->Prop) (g gr cap:Nat) (m:MZ) (ch:List Int) (st:Int) (k:Nat) (pt:List Nat):Prop where
 rt:Bc wr (fun b=>w.heap.size<=b) Y g gr cap m ⟨ch.take k,false,st⟩ pt
 ext:za w wr
 ch:zw m (ch.take k)
theorem load_fin {w9:World} {gr cap:Nat} {m:MZ} {st:Int} {pt:List Nat} {d:Bool} {c:List Int} (h:Bc w9 (fun b=>w.heap.size<=b) Y g gr cap m ⟨c,false,st⟩ pt) (G:za w w9) (I:c=ch) (E:zw m ch) (M:zZ m) (D:loadE m ch st=0) (J:d=(loadS m ch st).done):
  Dt w Y m ch st (.returned (.tuple #[.pointer (some ⟨g,0,none⟩),.int .i64 0])) (w9.setCell ⟨g,1,none⟩ (.bool d)):=by
 subst I;refine ⟨.pointer (some ⟨g,0,none⟩),by rw [D],G.setCell (p:=⟨g,1,none⟩) h.xg _,.inr ⟨D,M,E,g,gr,cap,pt,rfl,?_⟩⟩;have:=h.done d;rw [J] at this⊢;exact this
theorem load_calls {v:Value} {m:MZ} (st:Int) (w:World) (hm:zL w Y v m) (hl:Lens m) (g7:zg w okc vc ch) (m9:ch.length<=20000000000000) (g4:∀b,Y b->b<w.heap.size):
  Calls Tryz.prog 80 #[v,vc,.int .i64 st] w (Dt w Y m ch st):=by
 have h9:=hm;obtain ⟨vfr,vup,vts,rfl,_,_,k7⟩:=hm;have f8:=zh h9;clear h9 k7;have l0:=zh g7;obtain ⟨Ac,cc,rfl,m8,i2⟩:=g7;have j1:=zh i2;clear i2;have HL:=zh hl;clear hl;have g3:=zh g4;clear g4;obtain ⟨MV,j3⟩:=zaI (Value.agg #[.int .i64 m.w,.int .i64 m.h,.int .i64 m.l,vfr,vup,vts]);obtain ⟨ck,g8⟩:=zaI (AV m);have b2:=zh g8;clear g8;obtain ⟨i0,hi,i6,e3,c9⟩:=info_parts Tryz.infoPst;have IF:=zh hi;have IZ0:=zh i6;have IZ1:=zh e3;have IZ2:=zh c9;clear hi i6 e3 c9 j3
 go_enter Tryz.func80,Tryz.ntmps80
 go_wp2_with fail
 generalize f7:w.alloc (.cells #[.int .i64 m.w,.int .i64 m.h,.int .i64 m.l,vfr,vup,vts] 32)=w1;have f1:za w w1:=by rw [<-f7];exact (za.refl w).alloc _
 have h8:ze w1 w.heap.size 32 #[.int .i64 m.w,.int .i64 m.h,.int .i64 m.l,vfr,vup,vts]:=by rw [<-f7];exact zax _ _
 clear f7;obtain ⟨m0,m1,m2,m3,m4,m5⟩:=zt h8;have c0:=za.rule m0;have c1:=za.rule m1;have c2:=za.rule m2;have c3:=za.rule m3;have c4:=za.rule m4;have c5:=za.rule m5;clear m0 m1 m2 m3 m4 m5 h8;refine (BQ w1 (f8.out.below f1) HL.out).mono ?_;rintro e w2 ⟨rfl,e2⟩;have e2:za w1 w2:=e2;have a9:za w w2:=f1.trans e2;rw [<-b2.out];by_cases h0:ck=0
 case neg=>
  have n0:(ck==0)=false:=by rw [FM];exact h0
  have n1:(ck != 0)=true:=by rw [bne_iff_ne];exact h0
  have J:loadE m ch st=ck:=by unfold loadE;rw [<-b2.out,if_pos h0]
  have G:Dt w Y m ch st (.returned (.tuple #[.pointer none,.int .i64 ck])) w2:=⟨.pointer none,by rw [J],a9,.inl ⟨by rw [J];exact h0,rfl⟩⟩;have D:=zh G;clear G J h0
  go_wp2_with fail
  go_ret2
  exact D.out
 case pos=>
  subst h0;have HG:=zh (zZ.of b2.out.symm);by_cases e1:st<0
  ·have J:loadE m ch st=1:=by unfold loadE;rw [<-b2.out,if_neg (by simp),if_pos e1]
   have G:Dt w Y m ch st (.returned (.tuple #[.pointer none,.int .i64 1])) w2:=⟨.pointer none,by rw [J],a9,.inl ⟨by rw [J];decide,rfl⟩⟩;have D:=zh G;clear G J
   go_wp2_with fail
   go_ret2
   exact D.out
  ·have l7:0<=st:=by omega
   have n2:decide (st<0)=false:=FC e1
   have b3:Hid (loadE m ch st=if (isChB m ch && (decide (ch=[]) || AA m ch))=true then 0 else 51):=by
    show loadE m ch st=_;unfold loadE;rw [<-b2.out,if_neg (by simp),if_neg e1]
   clear e1
   go_wp2_with fail
   refine (begin_c w2 (f8.out.below a9) (by have:=HG.out.tk;omega)).mono ?_;rintro e w3 ⟨p,rfl,i4,e7⟩;have f0:za w w3:=a9.trans i4
   have H0:Hid (LR w ((w3.alloc (.cells #[ptrV p] 198)).alloc (.cells #[.slice (some ⟨w3.heap.size,0,none⟩) 1 1,.bool false,.int .i64 st] 202)) Y (w3.heap.size+1) w3.heap.size 1 m ch st 0 [p]):=by
    have hz:=f0.size;have c9:=a9.size;refine ⟨?_,(f0.alloc _).alloc _,by simpa using zw.nil⟩
    have:=Bc.new (X:=fun b=>w.heap.size<=b) (Y:=Y) (st:=st) e7 (fun b hb _=>by
     rcases hb with hb | hb
     ·exact .inr hb
     ·exact .inl (by omega)) (fun b hb=>by omega) (fun b hb=>by have:=g3.out b hb;omega)
    simpa using this
   clear e7
   go_wp2_with fail
   generalize i3:(w3.alloc (.cells #[.pointer (some ⟨p,0,none⟩)] 198)).alloc (.cells #[.slice (some ⟨w3.heap.size,0,none⟩) 1 1,.bool false,.int .i64 st] 202)=w4;have H0:Hid (LR w w4 Y (w3.heap.size+1) w3.heap.size 1 m ch st 0 [p]):=by rw [<-i3];exact H0
   clear i3;generalize w3.heap.size+1=g at*;generalize w3.heap.size=gr0 at*;clear c0 c1 c2 c3 c4 c5 i4 f0 a9 e2 f1
   go_loopg [27] ch.length (fun gk v wr=>∃(k gr cap:Nat) (pt:List Nat),v=.int .i64 k/\k<=ch.length/\gk=ch.length - k/\Hid (LR w wr Y g gr cap m ch st k pt))
   case atStart=>exact ⟨0,gr0,1,[p],rfl,FN _,rfl,H0⟩
   clear H0
   case round=>
    obtain ⟨k,gr,cap,pt,rfl,hk,rfl,U⟩:=hrel;have O:=U.out.ext;have b1:=U.out.rt;obtain ⟨p2,f6,c7,_⟩:=b1.row.last;dsimp only at f6 c7;have j9:(ch.take k).length=k:=by rw [za3];omega
    have f4:=U.out.ch.len300 HG.out;rw [j9] at f4;have b5:Hid (∀W,za wr W->Calls Tryz.prog 147 #[.pointer (some ⟨g,0,none⟩)] W fun e w'=>e=.returned (.pointer (some ⟨p2,0,none⟩))/\zT W w'):=fun W hE=>last_c (w':=W) (b1.ext hE) f6 (by dsimp only;omega)
    have a8:=zh c7;have rg0:∀W,za wr W->W.cell? ⟨g,0,none⟩=some (.slice (some ⟨gr,0,none⟩) pt.length cap):=za.rule (b1.blk.cell (k:=0) rfl);have l2:=Bq b1.row.1;have l5:pt.length<=400:=by have:=b1.row.2.1;dsimp only at this;omega
    clear b1 f6 c7;rcases zah k ch.length with c6 | hge
    ·obtain ⟨bc,oc,rfl,_,a2⟩:=Ai j1.out c6 c6;obtain ⟨n,hn⟩:=zaI (ch[k]);rw [<-hn] at a2;have q0:=za.rule a2;have HN:=zh hn;clear a2 hn
     go_wp2_with fail
     refine (b5.out wr (za.refl _)).mono ?_;rintro e w5 ⟨rfl,b7⟩;have a3:za wr w5:=b7.below _;clear b7
     go_wp2_with fail
     refine (DF w5 (a8.out.ext a3) HG.out HL.out U.out.ch).mono ?_;rintro e w6 ⟨v6,rfl,hM⟩;have M:za wr w6:=a3.trans hM.ext;have HM:=zh hM.ints;clear hM a3
     go_wp2_with fail
     refine (Bo n w6 HM.out (by have:=Dv HL.out (ch.take k);omega)).mono ?_;rintro e w7 ⟨rfl,rfl⟩;by_cases b0:n∈Bn m (ch.take k)
     ·rw [FB b0];have f9:=zh b0;clear b0;have g9:Hid (ch.take k++[n]=ch.take (k+1)):=by show _=_;rw [FF c6,HN.out]
      go_wp2_with fail
      refine Cj fun Q' hP j4=>?_;refine zB (S:=(fun W=>W.cell? ⟨g,0,none⟩=some (.slice (some ⟨gr,0,none⟩) pt.length cap))) zG ((M.drew).cell (U.out.rt.blk.cell (k:=0) rfl)) fun zH=>?_;have h5:za wr w6.drew:=M.drew;refine AQ 0 hP zH ?_;simp only [zc,Fv];refine AQ 1 hP zH ?_;simp only [zc,Fv];refine AQ 2 hP zH ?_;simp only [zc,Fv];refine AQ 3 hP zH ?_;simp only [zc,Fv];refine AQ 4 hP zH ?_;simp only [zc,Fv];refine AQ 5 hP zH ?_;simp only [zc,Fv];refine AQ 7 hP zH ?_;simp only [zc,Fv];refine EM 6 fun K hK=>?_;go_simp;go_at_call 147;refine (b5.out _ h5).mono ?_;rintro e wa1 ⟨rfl,j6⟩;have d8:za wr wa1:=h5.trans (j6.below _);go_simp;refine zaJ hK ((d8).cell (U.out.rt.blk.cell (k:=0) rfl)) fun zH=>?_;clear hK K;try simp only [zc,Fv]
      refine EM 8 fun K hK=>?_;go_simp;go_at_call 149;refine (with_c _ (a8.out.ext d8) HG.out HL.out U.out.ch f9.out).mono ?_;rintro e wa2 ⟨q,rfl,i5,hq⟩;have HQ:=zh (push_ok (g:=g) (gr:=gr) hq d8 U.out.rt (fun b hb=>FA O.size hb));clear hq;have V:za wr wa2:=d8.trans i5;clear i5;go_simp;refine zaJ hK ((V).cell (U.out.rt.blk.cell (k:=0) rfl)) fun zH=>?_;clear hK K;try simp only [zc,Fv]
      refine EM 9 fun K hK=>?_;go_simp;go_simp;refine zaJ hK ((V.alloc (.cells #[.pointer (some ⟨q,0,none⟩)] 198)).cell (U.out.rt.blk.cell (k:=0) rfl)) fun zH=>?_;clear hK K;try simp only [zc,Fv]
      refine EM 10 fun K hK=>?_;have d9:=U.out.rt.ext V;have b6:=zh d9;have g6:wa2.cell? ⟨g,0,none⟩=some (.slice (some ⟨gr,0,none⟩) pt.length cap):=d9.blk.cell (k:=0) rfl;have h6:wa2.frozen? ⟨g,0,none⟩=false:=d9.blk.frozen 0;clear d9;refine step_append_lies (P:=Tryz.prog) _ (by rfl) _ _ 200 (by rfl) 0 198 i0 (.pointer none) 1 8 Tryz.underlying200 IF.out IZ0.out IZ1.out IZ2.out rfl (by decide) (.slice (some ⟨gr,0,none⟩) pt.length cap) pt.length _ (by rfl) (b6.out.row.1.alloc _) ⟨wa2.heap.size,0,none⟩ 1 1 [ptrV q] (by rfl) rfl (cell_one_new _ _ _) (by simp [ptrV,Value.oneCell']) (by decide) (by unfold maxLen;omega) (by omega) (FN _) (wa2.heap.size+1) (by simp) ?_;intro g5 c5 w9 e6 hg hv _;obtain ⟨gr',cap',n3,E,e5⟩:=b6.out.push HQ.out (fun b hb=>FA O.size (FA V.size hb)) (fun b hb=>zam (g3.out b hb) (FA O.size V.size)) e6 hg (by rcases hv with hv | hv;exact .inl hv.symm;exact .inr (congrArg some hv));have a0:w9.heap[g]?=wa2.heap[g]?:=(hg.block g (by have:=zd b6.out.blk;simp;omega) (fun e=>b6.out.ne (by injection e))).trans (zad _ _ _ (zd b6.out.blk));have f2:w9.cell? ⟨g,0,none⟩=some (.slice (some ⟨gr,0,none⟩) pt.length cap):=(zaa a0).trans g6;have h7:w9.frozen? ⟨g,0,none⟩=false:=(zaj (a:=⟨g,0,none⟩) a0).trans h6;have i9:Hid (za w (w9.setCell ⟨g,0,none⟩ (.slice (some ⟨g5,0,none⟩) (pt.length+1) c5))):=Below.trans (O.trans V) (e5.below (FA O.size V.size) (fun b hb=>hb));have g1:=zh E;clear e6 hg hv E e5 a0 g6 h6;refine zaJ hK (f2) fun zH=>?_;clear hK K;try simp only [zc,Fv]
      refine AQ 11 hP zH ?_;simp only [zc,Fv];refine AQ 12 hP zH ?_;simp only [zc,Fv];refine rlZ 13 fun K hK=>?_;go_simp;go_simp;refine hK.out _ _ ?_;clear hK K;refine zP (by kernel_rfl) ?_ _;subst j4
      go_wp2_with fail
      go_roundg (ch.length - (k+1))
      case measure=>omega
      case rel=>exact ⟨k+1,_,_,_,by go_num,c6,rfl,⟨by have:=g1.out;rwa [g9.out] at this,i9.out,by rw [<-g9.out];exact .snoc U.out.ch f9.out⟩⟩
     ·rw [FC b0]
      have J:loadE m ch st=51:=by
       rw [b3.out]
       have:isChB m ch=false:=by
        rw [Bool.eq_false_iff];intro h;have h1:=(AX.1 h).at c6;rw [<-HN.out] at h1;exact b0 h1
       rw [this];rfl
      have G:Dt w Y m ch st (.returned (.tuple #[.pointer none,.int .i64 51])) w6:=⟨.pointer none,by rw [J],O.trans M,.inl ⟨by rw [J];decide,rfl⟩⟩;have D:=zh G;clear G J b0
      go_wp2_with fail
      go_ret2
      exact D.out
    ·have j8:k=ch.length:=by omega
     subst j8;have d6:Hid (ch.take ch.length=ch):=FJ;have a7:Hid (zw m ch):=by have:=U.out.ch;rwa [d6.out] at this
     have f3:isChB m ch=true:=AX.2 a7.out;rw [f3] at b3;have l8:=zh f3;clear f3;rw [d6.out] at a8;by_cases I:ch=[]
     ·have e3:decide ((0:Int)<(ch.length:Int))=false:=by rw [I];rfl
      have c9:((ch.length:Int)==0)=true:=by rw [I];rfl
      have k8:decide (0<ch.length)=false:=by rw [I];rfl
      have k9:decide (ch.length=0)=true:=by rw [I];rfl
      have e4:=zh I;have b4:Hid (loadE m ch st=0):=by show _=_;rw [b3.out,FB I];rfl
      clear I
      go_wp2_with fail
      refine (b5.out wr (za.refl _)).mono ?_;rintro e w8 ⟨rfl,b8⟩;have a4:za wr w8:=za.trans (za.refl _) (b8.below _);clear b8
      go_wp2_with fail
      refine (EA w8 (a8.out.ext a4) HG.out HL.out a7.out).mono ?_;rintro e w9 ⟨rfl,b9⟩;have c8:za wr w9:=a4.trans (b9.below _);clear b9 a4;obtain ⟨cb,a1⟩:=zaI (zV m ch);rw [<-a1];have a6:=zh a1;clear a1;have E:=U.out.rt.ext c8;have f2:w9.cell? ⟨g,1,none⟩=some (.bool false):=E.blk.cell (k:=1) rfl;have h7:w9.frozen? ⟨g,1,none⟩=false:=E.blk.frozen 1;have D:Hid (∀d,d=(loadS m ch st).done->Dt w Y m ch st (.returned (.tuple #[.pointer (some ⟨g,0,none⟩),.int .i64 0])) (w9.setCell ⟨g,1,none⟩ (.bool d))):=fun d hd=>load_fin E (O.trans c8) d6.out a7.out HG.out b4.out hd
      clear E
      cases cb with
      | true=>
       go_wp2_with fail
       go_ret2
       exact D.out true (by unfold loadS;rw [<-a6.out];rfl)
      | false=>
       by_cases e0:0<st
       ·have k6:decide (0<st)=true:=FB e0
        go_wp2_with fail
        go_ret2
        exact D.out true (by unfold loadS;rw [<-a6.out,e4.out];simp [e0])
       ·have k6:decide (0<st)=false:=FC e0
        go_wp2_with fail
        go_ret2
        exact D.out false (by unfold loadS;rw [<-a6.out,e4.out];simp [e0])
     ·have i1:0<ch.length:=List.length_pos_iff.2 I;have e3:decide ((0:Int)<(ch.length:Int))=true:=FB (by omega);have c9:((ch.length:Int)==0)=false:=by rw [FM];omega
      have k8:decide (0<ch.length)=true:=FB i1;have k9:decide (ch.length=0)=false:=FC (by omega);have e9:=zh I;clear I
      go_wp2_with fail
      refine (b5.out wr (za.refl _)).mono ?_;rintro e w5 ⟨rfl,b7⟩;have a3:za wr w5:=b7.below _;clear b7
      go_wp2_with fail
      refine (open_c w5 (a8.out.ext a3) HG.out HL.out a7.out).mono ?_;rintro e w6 ⟨rfl,M⟩;have M:za wr w6:=a3.trans M;clear a3;obtain ⟨ob,f5⟩:=zaI (AA m ch);rw [<-f5];have g0:=zh f5;clear f5
      cases ob with
      | false=>
       have J:loadE m ch st=51:=by rw [b3.out,FC e9.out,<-g0.out];rfl
       have G:Dt w Y m ch st (.returned (.tuple #[.pointer none,.int .i64 51])) w6:=⟨.pointer none,by rw [J],O.trans M,.inl ⟨by rw [J];decide,rfl⟩⟩;have D:=zh G;clear G J
       go_wp2_with fail
       go_ret2
       exact D.out
      | true=>
       have b4:Hid (loadE m ch st=0):=by show _=_;rw [b3.out,FC e9.out,<-g0.out];rfl
       go_wp2_with fail
       refine (b5.out w6 M).mono ?_;rintro e w8 ⟨rfl,b8⟩;have a4:za wr w8:=za.trans M (b8.below _);clear b8
       go_wp2_with fail
       refine (EA w8 (a8.out.ext a4) HG.out HL.out a7.out).mono ?_;rintro e w9 ⟨rfl,b9⟩;have c8:za wr w9:=a4.trans (b9.below _);clear b9 a4;obtain ⟨cb,a1⟩:=zaI (zV m ch);rw [<-a1];have a6:=zh a1;clear a1;have E:=U.out.rt.ext c8;have f2:w9.cell? ⟨g,1,none⟩=some (.bool false):=E.blk.cell (k:=1) rfl;have h7:w9.frozen? ⟨g,1,none⟩=false:=E.blk.frozen 1;have D:Hid (∀d,d=(loadS m ch st).done->Dt w Y m ch st (.returned (.tuple #[.pointer (some ⟨g,0,none⟩),.int .i64 0])) (w9.setCell ⟨g,1,none⟩ (.bool d))):=fun d hd=>load_fin E (O.trans c8) d6.out a7.out HG.out b4.out hd
       clear E
       cases cb with
       | true=>
        go_wp2_with fail
        go_ret2
        exact D.out true (by unfold loadS;rw [<-a6.out];rfl)
       | false=>
        go_wp2_with fail
        go_ret2
        exact D.out false (by unfold loadS;rw [<-a6.out];simp [e9.out])
def EH (m:MZ) (ch:List Int):Bool:=decide (AV m=0) && isChB m ch
def SoPost (w:World) (Y:Nat->Prop) (m:MZ) (ch:List Int) (e:Ending) (w':World):Prop:=
 ∃v,e=.returned (.tuple #[v,.bool (EH m ch)])/\za w w'/\((EH m ch=false/\v=.pointer none)\/(EH m ch=true/\∃p,v=.pointer (some ⟨p,0,none⟩)/\Fu w' (fun b=>Y b\/w.heap.size<=b) p m ch))
theorem DY {m:MZ} (h:EH m ch=true):zZ m/\zw m ch:=by
 unfold EH at h;rw [FK,FI] at h;exact ⟨zZ.of h.1,AX.1 h.2⟩
theorem stateOf_calls {v:Value} {m:MZ} (w:World) (hm:zL w Y v m) (hl:Lens m) (e1:zg w okc vc ch) (f6:ch.length<=20000000000000):
  Calls Tryz.prog 183 #[v,vc] w (SoPost w Y m ch):=by
 have b9:=hm;obtain ⟨vfr,vup,vts,rfl,_,_,_⟩:=hm;have b0:=zh b9;clear b9;obtain ⟨Ac,cc,rfl,f5,c6⟩:=e1;have c9:=zh c6;clear c6;have HL:=zh hl;clear hl;obtain ⟨ck,b4⟩:=zaI (AV m);have a1:=zh b4;clear b4
 go_enter Tryz.func183,Tryz.ntmps183
 go_wp2_with fail
 generalize a7:w.alloc (.cells #[.int .i64 m.w,.int .i64 m.h,.int .i64 m.l,vfr,vup,vts] 32)=w1;have b3:za w w1:=by rw [<-a7];exact (za.refl w).alloc _
 have b7:ze w1 w.heap.size 32 #[.int .i64 m.w,.int .i64 m.h,.int .i64 m.l,vfr,vup,vts]:=by rw [<-a7];exact zax _ _
 clear a7;obtain ⟨m0,m1,m2,m3,m4,m5⟩:=zt b7;have c0:=za.rule m0;have c1:=za.rule m1;have c2:=za.rule m2;have c3:=za.rule m3;have c4:=za.rule m4;have c5:=za.rule m5;clear m0 m1 m2 m3 m4 m5 b7;refine (BQ w1 (b0.out.below b3) HL.out).mono ?_;rintro e w2 ⟨rfl,a8⟩;have a8:za w1 w2:=a8;have b2:za w w2:=b3.trans a8;rw [<-a1.out];by_cases h0:ck=0
 case neg=>
  have f7:(ck==0)=false:=by rw [FM];exact h0
  have f8:(ck != 0)=true:=by rw [bne_iff_ne];exact h0
  have G:EH m ch=false:=by unfold EH;rw [<-a1.out,FC h0];rfl
  have D:SoPost w Y m ch (.returned (.tuple #[.pointer none,.bool false])) w2:=⟨.pointer none,by rw [G],b2,.inl ⟨G,rfl⟩⟩;have E:=zh D;clear D G h0
  go_wp2_with fail
  go_ret2
  exact E.out
 case pos=>
  subst h0;have HG:=zh (zZ.of a1.out.symm);have J:=HG.out.dim;have e5:=J.n1;have b8:=J.layer;have HD:=zh J;clear J;have a6:Hid (EH m ch=isChB m ch):=by show _=_;unfold EH;rw [<-a1.out];rfl
  go_wp2_with fail
  refine (Bi m.w m.h m.l vfr vup vts w2 (by omega) (by omega)).mono ?_;rintro e w3 ⟨rfl,a3⟩;have a3:za w2 w3:=a3;have a2:za w w3:=b2.trans a3;have e9:za w1 w3:=za.trans ‹za w1 w2› a3;by_cases O:m.w*m.h*m.l<(ch.length:Int)
  ·have b6:decide (m.w*m.h*m.l<(ch.length:Int))=true:=FB O
   have G:EH m ch=false:=by
    rw [a6.out,Bool.eq_false_iff];intro h;have h1:=(AX.1 h).len HG.out;have h2:m.n=m.w*m.h*m.l:=rfl;omega
   have D:SoPost w Y m ch (.returned (.tuple #[.pointer none,.bool false])) w3:=⟨.pointer none,by rw [G],a2,.inl ⟨G,rfl⟩⟩;have E:=zh D;clear D G
   go_wp2_with fail
   go_ret2
   exact E.out
  ·have b6:decide (m.w*m.h*m.l<(ch.length:Int))=false:=FC O;have e3:ch.length<=300:=by omega
   clear O b8 e5
   go_wp2_with fail
   refine (begin_c w3 (b0.out.below a2) (by have:=HG.out.tk;omega)).mono ?_;rintro e w4 ⟨p,rfl,e6,a5⟩;have d6:za w w4:=a2.trans e6
   have H0:Hid (Fu w4 (fun b=>Y b\/w.heap.size<=b) p m (ch.take 0)):=by
    have:=a2.size
    exact a5.weaken fun b hb=>by
     rcases hb with hb | hb
     ·exact .inl hb
     ·exact .inr (by omega)
   have a4:Hid (zw m (ch.take 0)):=by show zw m (ch.take 0);simpa using zw.nil
   clear a5 b6 c0 c1 c2 c3 c4 c5
   go_wp2_with fail
   go_loopg [6,23] ch.length (fun gk v6 v wr=>∃(k p:Nat),v6=.pointer (some ⟨p,0,none⟩)/\v=.int .i64 k/\k<=ch.length/\gk=ch.length - k/\Hid (Fu wr (fun b=>Y b\/w.heap.size<=b) p m (ch.take k))/\Hid (zw m (ch.take k))/\Hid (za w wr))
   case atStart=>exact ⟨0,p,rfl,rfl,FN _,rfl,H0,a4,d6⟩
   clear H0 a4
   case round=>
    obtain ⟨k,p,rfl,rfl,hk,rfl,hS,hI,hX⟩:=hrel;have a0:=hX.out;rcases zah k ch.length with U | hge
    ·obtain ⟨bc,oc,rfl,_,I⟩:=Ai c9.out U U;obtain ⟨n,hn⟩:=zaI (ch[k]);rw [<-hn] at I;have q0:=za.rule I;have HN:=zh hn;clear I hn
     go_wp2_with fail
     refine (DF wr hS.out HG.out HL.out hI.out).mono ?_;rintro e w6 ⟨v6,rfl,hM⟩;have V:za wr w6:=hM.ext;have HM:=zh hM.ints;clear hM
     go_wp2_with fail
     refine (Bo n w6 HM.out (by have:=Dv HL.out (ch.take k);omega)).mono ?_;rintro e w7 ⟨rfl,rfl⟩;by_cases M:n∈Bn m (ch.take k)
     ·rw [FB M];have b1:=zh M;clear M;have b5:Hid (ch.take k++[n]=ch.take (k+1)):=by show _=_;rw [FF U,HN.out]
      go_wp2_with fail
      refine (with_c w6 (hS.out.ext V) HG.out HL.out hI.out b1.out).mono ?_;rintro e w8 ⟨q,rfl,c7,hq⟩
      have HQ:Hid (Fu w8 (fun b=>Y b\/w.heap.size<=b) q m (ch.take (k+1))):=by
       have:=(a0.trans V).size;rw [<-b5.out]
       exact hq.weaken fun b hb=>by
        rcases hb with hb | hb
        ·exact hb.1
        ·exact .inr (by omega)
      have d7:Hid (zw m (ch.take (k+1))):=by rw [<-b5.out];exact .snoc hI.out b1.out
      have e0:Hid (za w w8):=a0.trans (V.trans c7);clear hq c7 V a0
      go_wp2_with fail
      go_roundg (ch.length - (k+1))
      case measure=>omega
      case rel=>exact ⟨k+1,q,rfl,by go_num,U,rfl,HQ,d7,e0⟩
     ·rw [FC M]
      have G:EH m ch=false:=by
       rw [a6.out,Bool.eq_false_iff];intro h;have h1:=(AX.1 h).at U;rw [<-HN.out] at h1;exact M h1
      have D:SoPost w Y m ch (.returned (.tuple #[.pointer none,.bool false])) w6:=⟨.pointer none,by rw [G],a0.trans V,.inl ⟨G,rfl⟩⟩;have E:=zh D;clear D G M
      go_wp2_with fail
      go_ret2
      exact E.out
    ·have e2:k=ch.length:=by omega
     subst e2;have d5:Hid (ch.take ch.length=ch):=FJ
     have D:SoPost w Y m ch (.returned (.tuple #[.pointer (some ⟨p,0,none⟩),.bool true])) wr:=by
      have h1:=hI.out;have h2:=hS.out;rw [d5.out] at h1 h2;have h3:EH m ch=true:=by rw [a6.out];exact AX.2 h1
      exact ⟨_,by rw [h3],a0,.inr ⟨h3,p,rfl,h2⟩⟩
     have E:=zh D;clear D
     go_wp2_with fail
     go_ret2
     exact E.out
def AD (m:MZ) (ch:List Int):List Int:=if EH m ch=true then Bn m ch else []
theorem rCandidates_calls {v:Value} {m:MZ} (w:World) (hm:zL w Y v m) (hl:Lens m) (J:zg w okc vc ch) (a1:ch.length<=20000000000000):
  Calls Tryz.prog 133 #[v,vc] w fun e w'=>∃v',e=.returned v'/\Mk w w' v' (AD m ch):=by
 have M:=hm;obtain ⟨vfr,vup,vts,rfl,_,_,_⟩:=hm;have a0:=zh M;clear M;have HL:=zh hl;clear hl;have V:=zh J;obtain ⟨Ac,cc,rfl,a7,_⟩:=J;obtain ⟨ok,O⟩:=zaI (EH m ch);have D:=zh O;clear O
 go_enter Tryz.func133,Tryz.ntmps133
 go_wp2_with fail
 generalize U:w.alloc (.cells #[.int .i64 m.w,.int .i64 m.h,.int .i64 m.l,vfr,vup,vts] 32)=w1;have G:za w w1:=by rw [<-U];exact (za.refl w).alloc _
 clear U;refine (stateOf_calls w1 (a0.out.below G) HL.out (V.out.below G) a1).mono ?_;rintro e w2 ⟨v2,rfl,hE,hp⟩;rw [<-D.out];rw [<-D.out] at hp;have I:za w w2:=G.trans hE;rcases hp with ⟨h1,rfl⟩ | ⟨h1,p,rfl,h2⟩
 ·subst h1
  have E:Hid (Mk w w2 (.slice none 0 0) (AD m ch)):=by
   show Mk _ _ _ _;unfold AD;rw [<-D.out];exact Mk.nil' I
  go_wp2_with fail
  go_ret;exact ⟨_,rfl,E.out⟩
 ·subst h1;have HS:=zh h2;clear h2
  go_wp2_with fail
  refine (DF w2 HS.out (DY D.out.symm).1 HL.out (DY D.out.symm).2).mono ?_;rintro e w3 ⟨v3,rfl,hM⟩
  have E:Hid (Mk w w3 v3 (AD m ch)):=by
   show Mk _ _ _ _;unfold AD;rw [<-D.out,if_pos rfl];exact I.mono_mk hM
  clear hM
  go_wp2_with fail
  go_ret;exact ⟨_,rfl,E.out⟩
noncomputable def openO (m:MZ) (ch:List Int):Bool:=EH m ch && AA m ch
end
section
open Go.RowKit
def Ag (m:MZ) (ch:List Int):List (List Int):=zS m ch++(if zV m ch=true then [[]] else [])
theorem DB {m:MZ} (h:zV m ch=false):Ag m ch=zS m ch:=by unfold Ag;rw [h];simp
theorem splitL_cmp {m:MZ} (h:zV m ch=true):Ag m ch=zS m ch++[[]]:=by unfold Ag;rw [h];simp
theorem finB_snoc {m:MZ} {qs:List (List Int)} {p:List Int}:finB m (qs++[p++[x]])=decide (x∈(m.tasks.getD qs.length ([],[])).2):=by
 unfold finB;rw [FG,zak,Nat.add_sub_cancel];have:(qs++[p++[x]]).getD qs.length []=p++[x]:=by simp [Fx]
 rw [this];simp
theorem finB_nil {m:MZ} {qs:List (List Int)}:finB m (qs++[[]])=false:=by
 unfold finB;rw [FG,zak,Nat.add_sub_cancel];have:(qs++[([]:List Int)]).getD qs.length []=[]:=by simp [Fx]
 rw [this];rfl
theorem addN_snoc {qs:List (List Int)} {p:List Int}:CF (qs++[p]) x=qs++[p++[x]]:=by
 unfold CF;rw [FG,zak,Nat.add_sub_cancel,List.set_append_right _ _ (Fy _)];simp
theorem split_step {m:MZ} {qs:List (List Int)} {p:List Int} (x:Int) (G:zS m ch=qs++[p]) (J:qs.length<m.tasks.length):
  Ag m (ch++[x])=qs++[p++[x]]++(if x∈(m.tasks.getD qs.length ([],[])).2 then [[]] else []):=by
 have E:decide (m.tasks.length=0)=false:=FC (by omega);unfold Ag zV;rw [Eu,G];unfold Ch;rw [addN_snoc,finB_snoc,FG,zak];by_cases D:x∈(m.tasks.getD qs.length ([],[])).2
 ·rw [FB D,if_pos D];by_cases I:qs.length+1<m.tasks.length
  ·rw [if_pos ⟨rfl,I⟩];unfold cmpB;rw [finB_nil,E];simp
  ·rw [if_neg (fun h=>I h.2)];unfold cmpB;rw [finB_snoc,E,FB D,FB (show (qs++[p++[x]]).length=m.tasks.length by simp;omega)];simp
 ·rw [FC D,if_neg D,if_neg (fun h=>by cases h.1)];unfold cmpB;rw [finB_snoc,E,FC D];simp
theorem splitL_nil (m:MZ):Ag m []=[[]]:=by
 unfold Ag zV;rw [psOf_nil];unfold ps0;by_cases h:m.tasks.length=0
 ·rw [if_pos h];unfold cmpB;rw [FB h];simp
 ·rw [if_neg h];unfold cmpB;rw [FC h];have:finB m [[]]=false:=finB_nil (qs:=[]);rw [this];simp
theorem ps_form {m:MZ} (h:zw m ch) (D:zV m ch=false):∃qs p,zS m ch=qs++[p]/\qs.length<m.tasks.length/\Ag m ch=qs++[p]:=by
 have h1:=h.psOk;have h2:=h1.pn (BU D);rcases List.eq_nil_or_concat (zS m ch) with h3 | ⟨qs,p,h3⟩
 ·rw [h3] at h2;simp at h2
 ·rw [List.concat_eq_append] at h3;have h4:=h1.pl;rw [h3] at h4;simp only [FG,zak] at h4;exact ⟨qs,p,h3,by omega,by rw [DB D,h3]⟩
theorem Cr {m:MZ} (h:zw m ch):(zV m ch=true->(Ag m ch).length=m.tasks.length+1)/\(zV m ch=false->(Ag m ch).length<=m.tasks.length/\0<(Ag m ch).length):=by
 refine ⟨fun hc=>?_,fun hc=>?_⟩
 ·rw [splitL_cmp hc,FG,zak];unfold zV cmpB at hc;rw [zaD,FK,FI,FI] at hc;rcases hc with hc | hc
  ·have:=h.psOk.pl;omega
  ·omega
 ·obtain ⟨qs,p,h1,h2,h3⟩:=ps_form h hc;rw [h3,FG,zak];omega
section
open Go.Lib
theorem DS (d:Array Int) (G:∀i j,i<=j->j<d.size->d[i]!<=d[j]!):∀m,m<=d.size->(compactUpTo d m).Pairwise (·<·)/\∀x,x∈compactUpTo d m↔∃j,j<m/\d[j]! =x
 | 0,_=>⟨by simp [compactUpTo],fun x=>by simp [compactUpTo]⟩
 | m+1,hm=>by
  obtain ⟨h1,h2⟩:=DS d G m (by omega);rw [compactUpTo_succ];by_cases hk:keeps d m=true
  ·rw [if_pos hk];refine ⟨?_,fun x=>?_⟩
   ·rw [List.pairwise_append];refine ⟨h1,by simp,fun a J b I=>?_⟩;rw [zar] at I;subst I;obtain ⟨j,E,rfl⟩:=(h2 a).1 J;unfold keeps at hk;rw [FI] at hk;rcases hk with hk | hk
    ·omega
    ·have h3:=G j (m - 1) (by omega) (by omega);have h4:=G (m - 1) m (by omega) (by omega);omega
   ·rw [za0,h2,zar];constructor
    ·rintro (⟨j,E,e⟩ | e)
     ·exact ⟨j,by omega,e⟩
     ·exact ⟨m,by omega,e.symm⟩
    ·rintro ⟨j,E,e⟩;by_cases D:j=m
     ·subst D;exact .inr e.symm
     ·exact .inl ⟨j,by omega,e⟩
  ·rw [if_neg hk,List.append_nil];refine ⟨h1,fun x=>?_⟩;rw [h2];unfold keeps at hk;rw [FI] at hk;have M:m≠0:=fun h=>hk (.inl h)
   have he:d[m]! =d[m - 1]!:=Decidable.byContradiction fun h=>hk (.inr h)
   constructor
   ·rintro ⟨j,E,e⟩;exact ⟨j,by omega,e⟩
   ·rintro ⟨j,E,e⟩;by_cases D:j=m
    ·subst D;exact ⟨j - 1,by omega,by rw [<-he];exact e⟩
    ·exact ⟨j,by omega,e⟩
theorem compact_sorted (l:List Int):(compact (BL l)).Pairwise (·<·)/\∀x,x∈compact (BL l)↔x∈l:=by
 have hp:(BL l).Pairwise (fun x y=>decide (x<=y)=true):=by
  unfold BL;exact List.pairwise_mergeSort (fun a b c h1 h2=>by simp only [FI] at *;omega) (fun a b=>by simp only [zaD,FI];omega) l
 have I:∀i j,i<=j->j<(BL l).toArray.size->(BL l).toArray[i]!<=(BL l).toArray[j]!:=by
  intro i j G D;rw [List.size_toArray] at D;have E:i<(BL l).length:=by omega
  rw [getElem!_pos _ i (by simpa using E),getElem!_pos _ j (by simpa using D)];simp only [List.getElem_toArray];rcases zah i j with h | h
  ·have:=List.pairwise_iff_getElem.1 hp i j E D h;simpa using this
  ·have:i=j:=by omega
   subst this;exact Int.le_refl _
 obtain ⟨h1,h2⟩:=DS (BL l).toArray I (BL l).length (by simp);refine ⟨h1,fun x=>?_⟩;unfold compact;rw [h2,<-mem_sortL (l:=l)];constructor
 ·rintro ⟨j,D,e⟩;rw [getElem!_pos _ j (by simpa using D)] at e;simp only [List.getElem_toArray] at e;rw [<-e];exact Fz D
 ·intro J;obtain ⟨j,D,e⟩:=zaq J;exact ⟨j,D,by rw [getElem!_pos _ j (by simpa using D)];simpa using e⟩
end
theorem pw_eq {l l':List Int} (h:l.Pairwise (·<·)) (G:l'.Pairwise (·<·)) (he:∀x,x∈l↔x∈l'):l=l':=by
 have n1:l.Nodup:=h.imp (fun E=>by omega);have n2:l'.Nodup:=G.imp (fun E=>by omega);have D:l.Perm l':=(List.perm_ext_iff_of_nodup n1 n2).2 he;exact List.Perm.eq_of_pairwise (le:=fun a b=>a<b) (fun a b _ _ h1 h2=>by omega) h G D
theorem range_pw (n:Nat):((List.range n).map Int.ofNat).Pairwise (·<·):=by
 rw [List.pairwise_map];exact (List.pairwise_lt_range (n:=n)).imp (fun h=>by simpa using h)
def begL (m:MZ) (t:Nat) (ch:List Int):List Int:=((List.range m.n.toNat).map Int.ofNat).filter fun k=>decide (k∈(m.tasks.getD t ([],[])).1) && zj m t k && !decide (k∈ch)
theorem cand_beg {m:MZ} (g:zZ m) {qs:List (List Int)} (G:zS m ch=qs++[[]]) (J:zV m ch=false) (D:qs.length<m.tasks.length):Bn m ch=begL m qs.length ch:=by
 unfold Bn CR;have h1:(qs++[([]:List Int)]).length - 1=qs.length:=by simp
 have h2:(qs++[([]:List Int)]).getD qs.length []=[]:=by simp [Fx]
 unfold zV at J;rw [J,G,if_neg (by simp),h1,h2];show List.filter _ _=_;obtain ⟨s1,s2⟩:=compact_sorted (m.tasks.getD qs.length ([],[])).1;refine pw_eq (s1.filter _) ((range_pw _).filter _) fun x=>?_;show x∈List.filter _ _↔x∈begL m qs.length ch;unfold begL;rw [za9,za9,s2,zaA];simp only [FK,FI,Bool.not_eq_true',zai,zaB];constructor
 ·rintro ⟨E,hf,I⟩;rw [Fx,Fw D,zap] at E;have M:=g.tn _ (Fz D) x (.inl E);refine ⟨⟨x.toNat,by omega,by show (x.toNat:Int)=x;omega⟩,⟨?_,hf⟩,I⟩;rw [Fx,Fw D,zap];exact E
 ·rintro ⟨_,⟨E,hf⟩,I⟩;exact ⟨E,hf,I⟩
theorem cand_on {m:MZ} {qs:List (List Int)} {p:List Int} (D:zS m ch=qs++[p++[y]]) (E:zV m ch=false):Bn m ch=(zp m y).filter (zX m ch qs.length p (m.tasks.getD qs.length ([],[])).1):=by
 unfold Bn CR;have h1:(qs++[p++[y]]).length - 1=qs.length:=by simp
 have h2:(qs++[p++[y]]).getD qs.length []=p++[y]:=by simp [Fx]
 unfold zV at E;rw [E,D,if_neg (by simp),h1,h2];simp
theorem cand_cmp {m:MZ} (D:zV m ch=true):Bn m ch=[]:=by
 unfold Bn CR;unfold zV at D;rw [if_pos D]
theorem openC_true {m:MZ} (h:zw m ch) (D:∀t,(Ag m ch).length - 1<=t->t<m.tasks.length->DA m (zS m ch) ch t=true):AA m ch=true:=by
 unfold AA openB;rw [zaF];intro k G;rw [zaB] at G;unfold tasksN at G
 split at G
 ·omega
 ·rename_i E
  have E:zV m ch=false:=by unfold zV;simpa using E
  rw [DB E] at D;have:=h.psOk.pn (BU E);exact D _ (by omega) (by omega)
theorem openC_false {m:MZ} {t:Nat} (h:zw m ch) (h0:(Ag m ch).length - 1<=t) (ht:t<m.tasks.length) (hf:DA m (zS m ch) ch t=false):AA m ch=false:=by
 cases E:zV m ch
 ·unfold AA openB;rw [<-Bool.not_eq_true,zaF];intro D;rw [DB E] at h0;have hp:=h.psOk.pn (BU E)
  have h1:=D (t - ((zS m ch).length - 1)) (by
   rw [zaB];unfold tasksN;unfold zV at E;rw [E,if_neg (by simp)];omega)
  rw [show (zS m ch).length - 1+(t - ((zS m ch).length - 1))=t from by omega,hf] at h1;cases h1
 ·have:=(Cr h).1 E;omega
theorem fromL_on {m:MZ} {us:List Int} {qs:List (List Int)} {p:List Int} (D:zS m ch=qs++[p++[y]]):Bb m (zS m ch) us qs.length=[y]:=by
 unfold Bb;rw [D,if_pos (by simp)];have h2:(qs++[p++[y]]).getD qs.length []=p++[y]:=by simp [Fx]
 rw [h2];simp
theorem fromL_off {m:MZ} {us:List Int} {qs:List (List Int)} {p:List Int} {t:Nat} (D:zS m ch=qs++[p]) (ht:t≠qs.length\/p=[]):Bb m (zS m ch) us t=((m.tasks.getD t ([],[])).1).filter fun n=>zj m t n && !decide (n∈us):=by
 unfold Bb;rw [D]
 have:(if t+1=(qs++[p]).length then ((qs++[p]).getD t []).getLast? else none)=none:=by
  rcases ht with ht | rfl
  ·rw [if_neg (by simp;omega)]
  ·split
   ·rename_i h
    have:t=qs.length:=by simp at h;omega
    subst this;simp [Fx]
   ·rfl
 rw [this];simp only [Bool.not_or,Bool.not_not]
theorem any_comm (a b:List Int):(a.any fun x=>decide (x∈b))=(b.any fun x=>decide (x∈a)):=by
 rw [Bool.eq_iff_iff,zaE,zaE];simp only [FI];exact ⟨fun ⟨x,h1,h2⟩=>⟨x,h2,h1⟩,fun ⟨x,h1,h2⟩=>⟨x,h2,h1⟩⟩
structure SpA (w1 wr:World) (v u:Value) (vs:List Value) (S:Nat) (qs:List (List Int)) (p:List Int):Prop where
 ext:za w1 wr
 lo:w1.heap.size<=S
 hi:S<=wr.heap.size
 own:Cy wr w1.heap.size v (vs++[u])
 vl:vs.length=qs.length
 old:∀(i:Nat) q,qs[i]?=some q->∃x,vs[i]?=some x/\zQ wr w1.heap.size x q/\∀g,x.ownBlock=some g->g<S
 cur:zQ wr S u p
def SpV (w1 wr:World) (v:Value) (qs:List (List Int)) (p:List Int):Prop:=∃u vs S,SpA w1 wr v u vs S qs p
theorem intsTake {A:Option Addr} {N:Nat} {l:List Int} (h:zg w ok (.slice A n c) l) (J:N<=n):zg w ok (.slice A N c) (l.take N):=by
 obtain ⟨A',c',e,M,O,I⟩:=h;injection e with e1 e2 e3;subst e1 e2 e3;refine ⟨A,c,by rw [za3,Nat.min_eq_left (by omega)],by rw [za3];omega,by simp,fun hp=>?_⟩;rw [za3] at hp;obtain ⟨b,off,e,G,D⟩:=I (by omega);refine ⟨b,off,e,G,fun j u E=>D j u ?_⟩;rw [List.map_take,List.getElem?_take] at E
 split at E
 ·exact E
 ·cases E
theorem row_one {u:Value} (h:W.cell? ⟨g,0,none⟩=some u):AS W (fun _=>True) 1 (.slice (some ⟨g,0,none⟩) 1 1) 1 [u]:=
 ⟨some ⟨g,0,none⟩,1,rfl,Fy _,rfl,fun _=>⟨g,0,rfl,trivial,fun j x D=>by
  match j,D with
  | 0,D=>
   have:x=u:=by simpa using D.symm
   subst this;exact h⟩⟩
theorem AI {B:Nat} {v:Value} {l:List Int} (h:zQ w B v l):∃A n c,v=.slice A n c:=by
 obtain ⟨A,c,e,_⟩:=Bl h;exact ⟨A,_,c,e⟩
section
variable {w1 wr w':World} {v u u':Value} {vs:List Value} {S:Nat} {qs:List (List Int)} {p:List Int}
theorem SpA.more (h:SpA w1 wr v u vs S qs p) (D:za wr w'):SpA w1 w' v u vs S qs p:=
 ⟨h.ext.trans D,h.lo,FA h.hi D.size,h.own.ext D,h.vl,fun i q E=>by
  obtain ⟨x,h1,h2,h3⟩:=h.old i q E;exact ⟨x,h1,h2.ext D,h3⟩,h.cur.ext D⟩
theorem SpV.more (h:SpV w1 wr v qs p) (D:za wr w'):SpV w1 w' v qs p:=by
 obtain ⟨u,vs,S,h⟩:=h;exact ⟨u,vs,S,h.more D⟩
theorem SpA.form (h:SpA w1 wr v u vs S qs p):∃g c,v=.slice (some ⟨g,0,none⟩) (qs.length+1) c/\w1.heap.size<=g/\qs.length+1<=c/\wr.cell? ⟨g,qs.length,none⟩=some u:=by
 have G:(vs++[u]).length=qs.length+1:=by rw [FG,zak,h.vl]
 have D:=h.own;unfold Cy at D;rw [G] at D;obtain ⟨g,c,rfl,E,I⟩:=World.ownsRow.form D (by omega);refine ⟨g,c,rfl,E,Bq D,?_⟩;rw [World.ownsRow.cellAt D _ (by omega),<-h.vl,FE (Fy _),Nat.sub_self];rfl
theorem SpA.push (h:SpA w1 wr (.slice (some ⟨g,0,none⟩) n c) u vs S qs p) (O:zQ w' S u' (p++[x])) (I:Hid (wr.grownBy w' u.ownBlock)):
  SpA w1 (w'.setCell ⟨g,qs.length,none⟩ u') (.slice (some ⟨g,0,none⟩) n c) u' vs S qs (p++[x]):=by
 have E:=h.cur;have D:Cy w' w1.heap.size (.slice (some ⟨g,0,none⟩) n c) (vs++[u]):=World.ownsRow.kept h.own I.out (own_ne h.own E (by decide));have U:w1.heap.size<=g:=(World.ownsRow.lt h.own g rfl).1;have J:za w1 w':=zK h.ext I h.ext.size (fun k V=>FA h.lo (Ad E V))
 have G:=(World.ownsRow.stored (n:=n) (cap:=c) (xs:=vs++[u]) (by
  have M:(vs++[u]).length=n:=by
   have h0:=D;unfold Cy at h0;obtain ⟨g',c',e,_,_⟩:=World.ownsRow.form h0 (by simp);injection e with _ e2 _;exact e2.symm
  have h0:=D;unfold Cy at h0
  rwa [M] at h0) qs.length u')
 refine ⟨J.setCell U _,h.lo,FA h.hi (by rw [World.setCell];simpa using I.out.size),?_,h.vl,fun i q hq=>?_,?_⟩
 ·have h1:=G.1;rw [<-h.vl,List.set_append_right _ _ (Fy _),Nat.sub_self] at h1
  have M:n=(vs++[u']).length:=by
   have:=G.1.1;rw [<-h.vl,List.set_append_right _ _ (Fy _),Nat.sub_self] at this;simp at this⊢;omega
  unfold Cy;rw [<-M];rw [h.vl] at h1;exact h1
 ·obtain ⟨x',h1,h2,h3⟩:=h.old i q hq
  have h4:zQ w' w1.heap.size x' q:=World.ownsRow.kept h2 I.out (by
   cases hx:x'.ownBlock with
   | none=>exact .inl rfl
   | some k=>
    refine .inr fun e=>?_
    have:=h3 k hx;have:=Ad E e.symm;omega)
  refine ⟨x',h1,ownsRow_setCell_other h4 (fun e=>?_) _,h3⟩;rcases own_ne h4 D (by decide) with h5 | h5
  ·rw [h5] at e;cases e
  ·exact h5 e
 ·refine ownsRow_setCell_other O (fun e=>?_) _;rcases own_ne O D (by decide) with h5 | h5
  ·rw [h5] at e;cases e
  ·exact h5 e
theorem SpA.slot (h:SpA w1 wr (.slice (some ⟨g,0,none⟩) n c) u vs S qs p) (E:Hid (wr.grownBy w' u.ownBlock)):
  w'.cell? ⟨g,qs.length,none⟩=some u/\w'.frozen? ⟨g,qs.length,none⟩=false/\za w1 w':=by
 have D:Cy w' w1.heap.size (.slice (some ⟨g,0,none⟩) n c) (vs++[u]):=World.ownsRow.kept h.own E.out (own_ne h.own h.cur (by decide))
 have G:n=(vs++[u]).length:=by
  have h0:=D;unfold Cy at h0;obtain ⟨g',c',e,_,_⟩:=World.ownsRow.form h0 (by simp);injection e with _ e2 _
 unfold Cy at D;rw [<-G] at D;refine ⟨?_,World.ownsRow.frozenAt D _,zK h.ext E h.ext.size (fun k I=>FA h.lo (Ad h.cur I))⟩;rw [World.ownsRow.cellAt D _ (by rw [G];simp [h.vl]),<-h.vl,FE (Fy _),Nat.sub_self];rfl
theorem SpA.next {v':Value} (h:SpA w1 wr v u vs S qs p) (O:Cy w' w1.heap.size v' (vs++[u]++[.slice none 0 0])) (I:Hid (wr.grownBy w' v.ownBlock)):
  SpA w1 w' v' (.slice none 0 0) (vs++[u]) wr.heap.size (qs++[p]) []:=by
 have G:∀{x:Value} {B:Nat} {l:List Int},zQ wr B x l->zQ w' B x l:=fun M=>World.ownsRow.kept M I.out (own_ne M h.own (by decide))
 refine ⟨zK h.ext I h.ext.size (fun k G=>(World.ownsRow.lt h.own k G).1),h.ext.size,I.out.size,O,by simp [h.vl],fun i q E=>?_,World.ownsRow_nil _ _ _ _⟩;rcases zah i qs.length with hi | hi
 ·rw [FD hi] at E;obtain ⟨x,h1,h2,h3⟩:=h.old i q E;exact ⟨x,by rw [FD (by rw [h.vl];exact hi)];exact h1,G h2,fun g D=>zam (h3 g D) h.hi⟩
 ·have J:i=qs.length:=by
   rcases zah i (qs++[p]).length with h1 | h1
   ·simp at h1;omega
   ·rw [zae h1] at E;cases E
  subst J;rw [FE (Fy _),Nat.sub_self] at E;have hp:p=q:=by simpa using E
  subst hp;refine ⟨u,by rw [<-h.vl,FE (Fy _),Nat.sub_self];rfl,(G h.cur).mono h.lo,fun g D=>(World.ownsRow.lt h.cur g D).2⟩
theorem SpA.intss (h:SpA w1 wr v u vs S qs p):zU wr (fun b=>w1.heap.size<=b) v (qs++[p]):=by
 refine ⟨vs++[u],?_,fun i q D=>?_⟩
 ·have h1:=AS.of_own h.own;have h2:(vs++[u]).length=(qs++[p]).length:=by simp [h.vl]
  rw [h2] at h1;exact h1
 ·rcases zah i qs.length with hi | hi
  ·rw [FD hi] at D;obtain ⟨x,h1,h2,h3⟩:=h.old i q D;exact ⟨x,by rw [FD (by rw [h.vl];exact hi)];exact h1,AS.of_own h2⟩
  ·have E:i=qs.length:=by
    rcases zah i (qs++[p]).length with h1 | h1
    ·simp at h1;omega
    ·rw [zae h1] at D;cases D
   subst E;rw [FE (Fy _),Nat.sub_self] at D;have hp:p=q:=by simpa using D
   subst hp;exact ⟨u,by rw [<-h.vl,FE (Fy _),Nat.sub_self];rfl,AS.of_own (h.cur.mono h.lo)⟩
theorem SpV.intss (h:SpV w1 wr v qs p):zU wr (fun b=>w1.heap.size<=b) v (qs++[p]):=by
 obtain ⟨u,vs,S,h⟩:=h;exact h.intss
theorem SpA.init (h:za w1 W):SpA w1 (W.alloc (.cells #[.slice none 0 0] 23)) (.slice (some ⟨W.heap.size,0,none⟩) 1 1) (.slice none 0 0) [] W.heap.size [] []:=
 ⟨h.alloc _,h.size,by simp,⟨rfl,.inr ⟨W.heap.size,1,#[.slice none 0 0],rfl,h.size,zax W _,Fy _,by decide,rfl,rfl⟩⟩,rfl,fun i q D=>by simp at D,World.ownsRow_nil _ _ _ _⟩
end
end
section
open Go.RowKit
attribute [local go_sem ↓] Go.wp_at_zero Go.wp_at_succ
def SpI (m:MZ) (ch:List Int) (w1 wr:World) (v:Value) (k:Nat):Prop:=∃qs p,Ag m (ch.take k)=qs++[p]/\SpV w1 wr v qs p
theorem cmp_take {m:MZ} (h:zw m ch) (D:k<ch.length):zV m (ch.take k)=false:=CS (h.at D)
theorem DH {v:Value} {m:MZ} (w:World) (hm:zL w ok v m) (g:zZ m) (hl:Lens m) (b9:zg w okc vc ch) (hc:zw m ch):
  Calls Tryz.prog 177 #[v,vc] w fun e w'=>∃v',e=.returned v'/\za w w'/\zU w' (fun b=>w.heap.size<=b) v' (Ag m ch):=by
 have f5:=hc.len300 g;obtain ⟨vfr,vup,vts,rfl,_,_,e4⟩:=hm;have e7:=zh e4;obtain ⟨vst,⟨At,ct,rfl,g5,_⟩,_⟩:=e4;have f7:=zh b9;have d7:=b9;obtain ⟨A,c,rfl,g4,hr⟩:=b9;have HR:=zh hr;have HC:=zh hc;have HL:=zh hl;have h9:=g.tk;clear hr d7 hc g hl
 go_enter Tryz.func177,Tryz.ntmps177
 go_wp2_with fail
 generalize b5:w.alloc (.cells #[.int .i64 m.w,.int .i64 m.h,.int .i64 m.l,vfr,vup,.slice At m.tasks.length ct] 32)=w1;have a7:za w w1:=by rw [<-b5];exact (za.refl w).alloc _
 have d8:ze w1 w.heap.size 32 #[.int .i64 m.w,.int .i64 m.h,.int .i64 m.l,vfr,vup,.slice At m.tasks.length ct]:=by rw [<-b5];exact zax _ _
 have e1:w1.heap.size=w.heap.size+1:=by rw [<-b5];simp
 clear b5;have r5:∀W,za w1 W->W.cell? ⟨w.heap.size,5,none⟩=some (.slice At m.tasks.length ct):=za.rule (d8.cell (k:=5) rfl);clear d8;have hI0:Hid (SpI m ch w1 (w1.alloc (.cells #[.slice none 0 0] 23)) (.slice (some ⟨w1.heap.size,0,none⟩) 1 1) 0):=⟨[],[],by rw [List.take_zero,splitL_nil];rfl,_,_,_,SpA.init (za.refl w1)⟩;generalize f3:w1.alloc (.cells #[.slice none 0 0] 23)=w2 at hI0⊢;clear f3;rw [e1] at hI0;clear e1
 go_wp2_with fail
 go_loopw [5,6] (fun v i wr=>∃k:Nat,k<=ch.length/\i=.int .i64 k/\Hid (SpI m ch w1 wr v k)) (fun _ i _=>ch.length - (intOf i).toNat)
 case atStart=>exact ⟨0,FN _,rfl,hI0⟩
 clear hI0
 case round=>
  obtain ⟨k,hk,rfl,hI⟩:=hrel;obtain ⟨wk,rfl⟩:∃wk:World,wk=wr:=⟨_,rfl⟩;obtain ⟨qs,p,e0,u,vs,S,b2⟩:=hI.out;clear hI;obtain ⟨gv,cv,rfl,g7,g6,f1⟩:=b2.form;have hx:za w1 wk:=b2.ext;have b6:=zh b2;have a8:=zh e0;clear b2 e0;by_cases U:k<ch.length
  ·obtain ⟨b,off,rfl,_,a3⟩:=Ai HR.out U U;have b3:=cmp_take HC.out U
   have g8:p.length<=300:=by
    have h4:=a8.out;rw [DB b3] at h4;have h5:=(HC.out.take k).psOk.fl;have h6:=flat_le (ps:=zS m (ch.take k)) (p:=p) (by rw [h4];simp);rw [h5,za3] at h6;omega
   have b4:qs.length<m.tasks.length:=by
    obtain ⟨qs',p',h1,h2,h3⟩:=ps_form (HC.out.take k) b3;have h4:=a8.out;rw [h3] at h4;have:=congrArg List.length h4;simp at this;omega
   have M:Hid (Ag m (ch.take k++[ch[k]])=qs++[p++[ch[k]]]++(if ch[k]∈(m.tasks.getD qs.length ([],[])).2 then [[]] else [])):=split_step _ (by rw [<-DB b3];exact a8.out) b4;rw [<-FF U] at M;obtain ⟨x,e5⟩:=zaI (ch[k]);rw [<-e5] at a3 M;clear e5 b3;obtain ⟨bt,offt,sn,u1,u2,rfl,_,e9,f0,d6,f2,c7⟩:=Bz e7.out b4;have d9:=(HL.out.tl _ (Fz b4)).2;have e2:(m.tasks.getD qs.length ([],[])).2=(m.tasks[qs.length]).2:=by simp [b4]
   rw [e2] at M;obtain ⟨tg,e3⟩:=zaI ((m.tasks[qs.length]).2);rw [<-e3] at c7 d9 M;clear e2 e3 f2 e9 f0;have d5:=zh c7;clear c7;have rt:∀W,za w1 W->W.cell? ⟨bt,offt+qs.length*3+2,none⟩=some u2:=fun W hW=>za.rule d6 W (a7.trans hW)
   have rc:=za.rule f1;have rx:∀W,za w1 W->W.cell? ⟨b,off+k,none⟩=some (.int .i64 x):=fun W hW=>za.rule a3 W (a7.trans hW)
   clear d6 a3;have g9:decide ((m.tasks.length:Int)<=(qs.length:Int))=false:=FC (by omega);have h8:(qs.length:Int)<(qs.length:Int)+1:=by omega
   have h7:decide (m.tasks.length<=qs.length)=false:=FC (by omega)
   go_wp2_with fail
   refine zab (S:=(fun W=>za w1 W)) zG (hx.drew) fun zH=>?_;have b1:za wk wk.drew:=(za.refl wk).drew;generalize wk.drew=wd at b1 zH⊢;refine zi 0 zH ?_;refine zi 1 zH ?_;simp only [zc,Fv];refine zi 2 zH ?_;refine zi 3 zH ?_;simp only [zc,Fv];refine zi 4 zH ?_;refine zi 6 zH ?_;simp only [zc,Fv];refine zi 7 zH ?_;refine zi 8 zH ?_;simp only [zc,Fv];refine zi 9 zH ?_;simp only [zc,Fv];refine rdA [5,10] ?_;refine zal rfl (fun K E=>?_) ?_
   ·have hx:=b1;go_simp;clear hx;refine zaJ E (zH) fun zH=>?_;clear E K;try simp only [zc,Fv]
    refine BO 10 fun K E=>?_;go_simp;refine zaJ E (zH.alloc _) fun zH=>?_;clear E K;try simp only [zc,Fv]
    refine BO 11 fun K E=>?_;have G:=zh (b6.out.more (b1.alloc (.cells #[.int .i64 x] 3)));refine zE (ok:=fun _=>True) (by rfl) _ _ _ (by rfl) S p [x] u _ (by rfl) (by rfl) G.out.cur (CB (zy wd _ _ rfl)) G.out.hi (by simp;omega) ?_;intro u' w9 a5 a4 b0;obtain ⟨b8,c6,a6⟩:=G.out.slot a4;have J:=zh (G.out.push a5 a4);obtain ⟨A9,n9,c9,rfl⟩:=AI a5;clear a5 a4 b0;refine zaJ E (a6) fun zH=>?_;clear E K;try simp only [zc,Fv]
    refine BO 12 fun K E=>?_;go_simp;refine zaJ E (a6) fun zH=>?_;clear E K;try simp only [zc,Fv]
    refine BO 13 fun K E=>?_;go_simp;refine zaJ E (J.out.ext) fun zH=>?_;clear E K;try simp only [zc,Fv]
    refine zao (by kernel_rfl) ?_ _
    go_wp2_with fail
    have a9:Hid (za w1 (w9.setCell ⟨gv,qs.length,none⟩ (.slice A9 n9 c9))):=J.out.ext;generalize w9.setCell ⟨gv,qs.length,none⟩ (.slice A9 n9 c9)=wt at J a9 zH⊢;clear b8 c6 a6 G;have D:za w1 wt:=a9.out;go_quiet ((go_at_call 73;refine (AO x _ (d5.out.below (a7.trans (D.drewN _))) (by omega)).mono ?_;rintro e w9 ⟨c0,rfl⟩;exact ⟨c0,⟨_,rfl⟩⟩))
    generalize hW:wt.drewN nq=wu;have b7:za wt wu:=by rw [<-hW];exact (za.refl wt).drewN _
    clear hW;have I:=zh (J.out.more b7);by_cases D:x∈tg
    ·rw [FB D];have a1:Hid (Ag m (ch.take (k+1))=qs++[p++[x]]++[[]]):=by have:=M.out;rw [if_pos D] at this;exact this
     clear D
     go_wp2_with (at_builtin;refine BD (ok:=fun _=>True) rfl _ _ _ rfl w1.heap.size (vs++[.slice A9 n9 c9]) [.slice none 0 0] _ _ rfl rfl ?h1 ?h2 ?h3 ?d1 ?d2 ?_)
     case h1=>exact World.ownsRow.alloc I.out.own _
     case h2=>exact (row_one (zy _ _ _ rfl))
     case h3=>(simp [Value.oneCell'])
     case d1=>(have:=I.out.ext.size;simp;omega)
     case d2=>(have:=I.out.vl;simp;omega)
     intro v' w10 V O a2;have a0:Hid (SpI m ch w1 w10 v' (k+1)):=⟨qs++[p++[x]],[],a1.out,_,_,_,SpA.next (I.out.more ((za.refl wu).alloc _)) (by simpa using V) O⟩;clear V O a2;go_wp2;go_roundw
     case rel=>exact ⟨k+1,U,by go_num,a0⟩
     case measure=>simp [intOf];omega
    ·rw [FC D];have a1:Hid (Ag m (ch.take (k+1))=qs++[p++[x]]):=by have:=M.out;rw [if_neg D,List.append_nil] at this;exact this
     clear D;have a0:Hid (SpI m ch w1 wu (.slice (some ⟨gv,0,none⟩) (qs.length+1) cv) (k+1)):=⟨qs,p++[x],a1.out,_,_,_,I.out⟩;go_wp2;go_roundw
     case rel=>exact ⟨k+1,U,by go_num,a0⟩
     case measure=>simp [intOf];omega
   refine zal rfl (fun K E=>?_) .nil;go_simp;refine zaJ E (zH.alloc _) fun zH=>?_;clear E K;try simp only [zc,Fv]
   refine BO 5 fun K E=>?_;have hx:=(b1.alloc (.cells #[.int .i64 x] 3));go_simp;clear hx;refine zaJ E (zH) fun zH=>?_;clear E K;try simp only [zc,Fv]
   refine BO 11 fun K E=>?_;have G:=zh (b6.out.more (b1.alloc (.cells #[.int .i64 x] 3)));refine zE (ok:=fun _=>True) (by rfl) _ _ _ (by rfl) S p [x] u _ (by rfl) (by rfl) G.out.cur (CB (zy wd _ _ rfl)) G.out.hi (by simp;omega) ?_;intro u' w9 a5 a4 b0;obtain ⟨b8,c6,a6⟩:=G.out.slot a4;have J:=zh (G.out.push a5 a4);obtain ⟨A9,n9,c9,rfl⟩:=AI a5;clear a5 a4 b0;refine zaJ E (a6) fun zH=>?_;clear E K;try simp only [zc,Fv]
   refine BO 12 fun K E=>?_;go_simp;refine zaJ E (a6) fun zH=>?_;clear E K;try simp only [zc,Fv]
   refine BO 13 fun K E=>?_;go_simp;refine zaJ E (J.out.ext) fun zH=>?_;clear E K;try simp only [zc,Fv]
   refine zao (by kernel_rfl) ?_ _
   go_wp2_with fail
   have a9:Hid (za w1 (w9.setCell ⟨gv,qs.length,none⟩ (.slice A9 n9 c9))):=J.out.ext;generalize w9.setCell ⟨gv,qs.length,none⟩ (.slice A9 n9 c9)=wt at J a9 zH⊢;clear b8 c6 a6 G;have D:za w1 wt:=a9.out;go_quiet ((go_at_call 73;refine (AO x _ (d5.out.below (a7.trans (D.drewN _))) (by omega)).mono ?_;rintro e w9 ⟨c0,rfl⟩;exact ⟨c0,⟨_,rfl⟩⟩))
   generalize hW:wt.drewN nq=wu;have b7:za wt wu:=by rw [<-hW];exact (za.refl wt).drewN _
   clear hW;have I:=zh (J.out.more b7);by_cases D:x∈tg
   ·rw [FB D];have a1:Hid (Ag m (ch.take (k+1))=qs++[p++[x]]++[[]]):=by have:=M.out;rw [if_pos D] at this;exact this
    clear D
    go_wp2_with (at_builtin;refine BD (ok:=fun _=>True) rfl _ _ _ rfl w1.heap.size (vs++[.slice A9 n9 c9]) [.slice none 0 0] _ _ rfl rfl ?h1 ?h2 ?h3 ?d1 ?d2 ?_)
    case h1=>exact World.ownsRow.alloc I.out.own _
    case h2=>exact (row_one (zy _ _ _ rfl))
    case h3=>(simp [Value.oneCell'])
    case d1=>(have:=I.out.ext.size;simp;omega)
    case d2=>(have:=I.out.vl;simp;omega)
    intro v' w10 V O a2;have a0:Hid (SpI m ch w1 w10 v' (k+1)):=⟨qs++[p++[x]],[],a1.out,_,_,_,SpA.next (I.out.more ((za.refl wu).alloc _)) (by simpa using V) O⟩;clear V O a2;go_wp2;go_roundw
    case rel=>exact ⟨k+1,U,by go_num,a0⟩
    case measure=>simp [intOf];omega
   ·rw [FC D];have a1:Hid (Ag m (ch.take (k+1))=qs++[p++[x]]):=by have:=M.out;rw [if_neg D,List.append_nil] at this;exact this
    clear D;have a0:Hid (SpI m ch w1 wu (.slice (some ⟨gv,0,none⟩) (qs.length+1) cv) (k+1)):=⟨qs,p++[x],a1.out,_,_,_,I.out⟩;go_wp2;go_roundw
    case rel=>exact ⟨k+1,U,by go_num,a0⟩
    case measure=>simp [intOf];omega
  ·obtain rfl:k=ch.length:=by omega
   rw [FJ] at a8;go_wp2;go_ret;refine ⟨_,rfl,a7.trans hx,?_⟩;rw [a8.out];exact b6.out.intss.weaken fun b hb=>FA a7.size hb
end
end Go.Proofs.YtjomnbdjajjgfaaGreatDoor
