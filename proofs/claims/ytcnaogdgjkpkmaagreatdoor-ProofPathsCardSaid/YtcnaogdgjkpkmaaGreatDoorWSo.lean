import Derived.Test.YtcnaogdgjkpkmaaGreatDoorWSn
import Derived.Deep.DeepCutAuto
set_option linter.unusedVariables false
set_option linter.unusedSimpArgs false
set_option maxRecDepth 100000
set_option maxHeartbeats 16000000
namespace Go.Proofs.YtcnaogdgjkpkmaaGreatDoor
variable {n:Int} {ps:List (List Int)} {ch l p us:List Int} {m:MZ} {t:Nat} {ok:Nat->Prop} {w:World}
section
open Go.RowKit
structure PathR (m:MZ) (t:Nat) (p:List Int):Prop where
 hd:∀x,p.head?=some x->x∈(m.tasks.getD t ([],[])).1
 fr:∀x∈p,zl m t x=true
 nb:∀k x y,p[k]?=some x->p[k+1]?=some y->y∈zu m x
def FinP (m:MZ) (t:Nat) (p:List Int):Prop:=∃x,p.getLast?=some x/\x∈(m.tasks.getD t ([],[])).2
theorem PathR.nil (m:MZ) (t:Nat):PathR m t []:=⟨(fun x h=>by cases h),(fun x h=>by cases h),(fun k x y h=>by simp at h)⟩
theorem PathR.snoc {m:MZ} {t:Nat} {p:List Int} {n:Int} (h:PathR m t p) (hf:zl m t n=true) (h0:p=[]->n∈(m.tasks.getD t ([],[])).1) (h1:∀x,p.getLast?=some x->n∈zu m x):PathR m t (p++[n]):=by
 refine ⟨fun x hx=>?_,fun x hx=>?_,fun k x y hx d=>?_⟩
 ·cases p with
  | nil=>
   have:n=x:=by simpa using hx
   subst this;exact h0 rfl
  | cons a p=>exact h.hd x (by simpa using hx)
 ·rcases Er.1 hx with hx | hx
  ·exact h.fr x hx
  ·rw [Ej] at hx;subst hx;exact hf
 ·rcases DZ (k+1) p.length with hk | hk
  ·rw [DH (by omega)] at hx;rw [DH hk] at d;exact h.nb k x y hx d
  ·have o:k+1<(p++[n]).length:=by
    rcases DZ (k+1) (p++[n]).length with h2 | h2
    ·exact h2
    ·rw [DW h2] at d;cases d
   have r:k+1=p.length:=by simp at o;omega
   rw [DI (by omega),show k+1 - p.length=0 from by omega] at d;have:n=y:=by simpa using d
   subst this;rw [DH (by omega)] at hx;refine h1 x ?_;rw [List.getLast?_eq_getElem?,show p.length - 1=k from by omega];exact hx
structure PsR (m:MZ) (ps:List (List Int)):Prop where
 one:∀t p,ps[t]?=some p->PathR m t p
 fin:∀t p,ps[t]?=some p->t+1<ps.length->FinP m t p
theorem cand_step (h:n∈BZ m ps us):zl m (ps.length - 1) n=true/\((ps.getD (ps.length - 1) [])=[]->n∈(m.tasks.getD (ps.length - 1) ([],[])).1)/\(∀x,(ps.getD (ps.length - 1) []).getLast?=some x->n∈zu m x):=by
 unfold BZ at h
 split at h
 ·cases h
 ·split at h
  ·rename_i d
   obtain ⟨h1,h2⟩:=Ex.1 h;simp only [DO] at h2;exact ⟨h2.1,fun _=>mem_sortL.1 (Dp h1),fun x r=>by rw [d] at r;cases r⟩
  ·rename_i x d
   obtain ⟨h1,h2⟩:=Ex.1 h;unfold zL at h2;simp only [DO] at h2;refine ⟨h2.1.1.1,(fun h0=>by rw [h0] at d;cases d),fun y o=>?_⟩;rw [d] at o;injection o with o;subst o;exact h1
theorem PsR.add (h:PsR m ps) (hp:0<ps.length) (I:n∈BZ m ps us):PsR m (Bv ps n):=by
 obtain ⟨h1,h2,r⟩:=cand_step I;obtain ⟨qs,p,rfl,he⟩:=addN_eq hp n;rw [he];have G:(qs++[p]).length - 1=qs.length:=by simp
 have E:(qs++[p]).getD qs.length []=p:=by simp
 rw [G] at h1 h2 r;rw [E] at h2 r;refine ⟨fun t q o=>?_,fun t q o ht=>?_⟩
 ·rcases DZ t qs.length with d | hge
  ·rw [DH d] at o;exact h.one t q (by rw [DH d];exact o)
  ·have B:t=qs.length:=by
    rcases DZ t (qs++[p++[n]]).length with h4 | h4
    ·simp at h4;omega
    ·rw [DW h4] at o;cases o
   subst B;rw [DI (DC _),Nat.sub_self] at o;have:p++[n]=q:=by simpa using o
   subst this;exact (h.one qs.length p (by simp)).snoc h1 h2 r
 ·have d:t<qs.length:=by simp at ht;omega
  rw [DH d] at o;exact h.fin t q (by rw [DH d];exact o) (by simp;omega)
theorem PsR.with {m:MZ} {ps:List (List Int)} {us:List Int} {n:Int} (h:PsR m ps) (hp:0<ps.length) (E:n∈BZ m ps us):PsR m (AY m ps n):=by
 have h1:=h.add hp E;unfold AY
 split
 ·rename_i hf
  have d:(Bv ps n).length=ps.length:=Cr
  have hF:∀t p,(Bv ps n)[t]?=some p->t+1=ps.length->FinP m t p:=fun t p ht he=>by
   have h2:=hf.1;unfold finB at h2;rw [d,show ps.length - 1=t from by omega,DB,ht] at h2;simp only [Eh] at h2
   split at h2
   ·cases h2
   ·rename_i x G
    exact ⟨x,G,EE h2⟩
  refine ⟨fun t p ht=>?_,fun t p ht o=>?_⟩
  ·rcases DZ t (Bv ps n).length with h2 | h2
   ·rw [DH h2] at ht;exact h1.one t p ht
   ·rw [DI h2] at ht
    have r:p=[]:=by
     cases B:t - (Bv ps n).length with
     | zero=>rw [B] at ht;simpa using ht.symm
     | succ j=>rw [B] at ht;simp at ht
    subst r;exact PathR.nil m t
  ·have h2:t<(Bv ps n).length:=by simp at o;omega
   rw [DH h2] at ht;rcases DZ (t+1) (Bv ps n).length with h3 | h3
   ·exact h1.fin t p ht h3
   ·exact hF t p ht (by omega)
 ·exact h1
theorem zw.psR (h:zw m ch):PsR m (Ad m ch):=by
 induction h with
 | nil=>
  rw [psOf_nil];unfold ps0
  split
  ·exact ⟨fun t p h=>by simp at h,fun t p h=>by simp at h⟩
  ·refine ⟨fun t p h=>?_,fun t p h o=>by simp at o⟩
   match t,h with
   | 0,h=>
    have:p=[]:=by simpa using h.symm
    subst this;exact PathR.nil m 0
 | @snoc ch n h d ih=>
  rw [CR];exact ih.with (h.psOk.pn (BU (Ck d))) d
theorem zw.all (h:zw m ch) (d:AR m ch=true):(Ad m ch).length=m.tasks.length/\(∀t p,(Ad m ch)[t]?=some p->PathR m t p/\FinP m t p):=by
 have o:=h.psR;have r:=h.psOk;unfold AR cmpB at d;rw [EB,DM,DO,DM] at d;rcases d with h0 | ⟨h0,h1⟩
 ·have:=r.pl;refine ⟨by omega,fun t p ht=>?_⟩;rw [DW (by omega)] at ht;cases ht
 ·refine ⟨h0,fun t p ht=>⟨o.one t p ht,?_⟩⟩
  have B:t<(Ad m ch).length:=by
   rcases DZ t (Ad m ch).length with h2 | h2
   ·exact h2
   ·rw [DW h2] at ht;cases ht
  rcases DZ (t+1) (Ad m ch).length with h2 | h2
  ·exact o.fin t p ht h2
  ·unfold finB at h1;rw [show (Ad m ch).length - 1=t from by omega,DB,ht] at h1;simp only [Eh] at h1
   split at h1
   ·cases h1
   ·rename_i x E
    exact ⟨x,E,EE h1⟩
theorem okC_of (d:Br m=0) (h:zw m ch):okC m ch=true:=by
 unfold okC;rw [DF d,Bj.2 h];rfl
theorem curF_eq {m:MZ} {pp:List (List Int)} {c:Nat}:∀(f t:Nat),t<=c->c<=t+f->(∀j,t<=j->j<c->j<pp.length/\endB m pp j=true)->¬ (c<pp.length/\endB m pp c=true)->curF m pp f t=c
 | 0,t,h0,h1,_,_=>by unfold curF;omega
 | f+1,t,h0,h1,h2,o=>by
  unfold curF;by_cases h:t=c
  ·subst h;rw [if_neg o]
  ·rw [if_pos (h2 t (DC _) (by omega))];exact curF_eq f (t+1) (by omega) (by omega) (fun j r d=>h2 j (by omega) d) o
theorem fin_last (h:zw m ch) (d:(Ad m ch).length<m.tasks.length):finB m (Ad m ch)=false:=by
 have o:∀l:List (List Int),finB m (l++[[]])=false:=fun l=>by
  unfold finB
  have:(l++[([]:List Int)]).getD ((l++[([]:List Int)]).length - 1) []=[]:=by
   rw [DK,Ec,Nat.add_sub_cancel,DB,DI (DC _)];simp
  rw [this];rfl
 cases h with
 | nil=>
  rw [psOf_nil] at d⊢;unfold ps0 at d⊢
  split
  ·rename_i h0;omega
  ·exact o []
 | @snoc ch n h r=>
  rw [CR] at d⊢;unfold AY at d⊢
  split
  ·exact o _
  ·rename_i h0
   rw [if_neg h0,Cr] at d
   cases hf:finB m (Bv (Ad m ch) n) with
   | false=>rfl
   | true=>exact absurd ⟨hf,d⟩ h0
structure Cur (m:MZ) (ch:List Int) (qs:List (List Int)) (a:List Int):Prop where
 ps:Ad m ch=qs++[a]
 lt:qs.length<m.tasks.length
 cur:zS m ch=qs.length
 pp:zq m ch=if a=[] then qs else qs++[a]
theorem ne_of_fin (h:FinP m t p):p≠[]:=by
 obtain ⟨x,d,-⟩:=h;intro e;subst e;cases d
theorem endB_fin {pp:List (List Int)} (hp:pp[t]?=some p) (h:FinP m t p):endB m pp t=true:=by
 obtain ⟨x,d,h2⟩:=h;unfold endB;rw [DB,hp,Eh,d];exact DF h2
theorem filter_ne {l:List (List Int)} (h:∀q∈l,q≠[]):l.filter (fun p=>decide (p.length≠0))=l:=
 List.filter_eq_self.2 fun q d=>DF (fun e=>h q d (List.length_eq_zero_iff.1 e))
theorem cur_of (hc:Br m=0) (h:zw m ch):(AR m ch=true/\zS m ch=m.tasks.length)\/(AR m ch=false/\∃qs a,Cur m ch qs a):=by
 have g:=Am.of hc;have hO:=h.psOk;have hR:=h.psR;have O:zq m ch=(Ad m ch).filter (fun p=>decide (p.length≠0)):=by unfold zq;rw [if_pos (okC_of hc h)]
 cases r:AR m ch with
 | true=>
  left
  obtain ⟨h1,h2⟩:=h.all r
  have K:zq m ch=Ad m ch:=by
   rw [O];refine filter_ne fun q hq=>?_
   obtain ⟨i,hi,rfl⟩:=Ei hq;exact ne_of_fin (h2 i _ (DA hi)).2
  refine ⟨rfl,?_⟩;unfold zS;rw [K];refine curF_eq _ _ (DR _) (by omega) (fun j _ d=>?_) (fun hx=>by omega);have I:j<(Ad m ch).length:=by omega
  exact ⟨I,endB_fin (DA I) (h2 j _ (DA I)).2⟩
 | false=>
  right
  refine ⟨rfl,?_⟩;have ht:=BU (ps:=Ad m ch) r;have G:=hO.pn ht;rcases List.eq_nil_or_concat (Ad m ch) with he | ⟨qs,a,he⟩
  ·rw [he] at G;cases G
  ·rw [List.concat_eq_append] at he;have E:(Ad m ch).length=qs.length+1:=by rw [he];simp
   have B:∀j (d:j<qs.length),FinP m j qs[j]:=fun j d=>hR.fin j _ (by rw [he,DH d,DA d]) (by omega)
   have a2:∀q∈qs,q≠[]:=fun q hq=>by
    obtain ⟨i,hi,rfl⟩:=Ei hq;exact ne_of_fin (B i hi)
   have o:zq m ch=if a=[] then qs else qs++[a]:=by
    rw [O,he,List.filter_append,filter_ne a2];by_cases J:a=[]
    ·subst J;simp
    ·rw [if_neg J,filter_ne (l:=[a]) (by simpa using J)]
   have a9:=hO.pl;refine ⟨qs,a,he,by omega,?_,o⟩
   have d:∀j (d:j<qs.length),(zq m ch)[j]?=some qs[j]:=fun j d=>by
    rw [o]
    split
    ·exact DA d
    ·rw [DH d,DA d]
   unfold zS;refine curF_eq _ _ (DR _) ?_ (fun j _ M=>?_) ?_
   ·rw [o];split <;> simp
   ·have h3:=d j M;obtain ⟨Q,-⟩:=List.getElem?_eq_some_iff.1 h3;exact ⟨Q,endB_fin h3 (B j M)⟩
   ·rintro ⟨Q,U⟩;have J:a≠[]:=fun e=>by rw [o,if_pos e] at Q;omega
    have h6:(zq m ch).getD qs.length []=a:=by
     rw [o,if_neg J,DB,DI (DC _)];simp
    unfold endB at U;rw [h6] at U
    have L:finB m (Ad m ch)=true:=by
     unfold finB;rw [E,Nat.add_sub_cancel]
     have:(Ad m ch).getD qs.length []=a:=by
      rw [he,DB,DI (DC _)];simp
     rw [this];exact U
    unfold AR cmpB at r;rw [L,Bool.and_true,Bool.or_eq_false_iff,Ea,Ea] at r;have h7:qs.length+1<m.tasks.length:=by omega
    exact absurd L (by rw [fin_last h (by rw [E];exact h7)];simp)
theorem headP_range {qs:List (List Int)} {a:List Int} (r:Br m=0) (o:zw m ch) (h:Cur m ch qs a) (ht:t<m.tasks.length):∀x∈AH m ch t,0<=x/\x<m.n:=by
 have g:=Am.of r;intro x d;unfold AH at d
 split at d
 ·rw [Option.mem_toList] at d;have h1:x∈(zq m ch).flatten:=mem_flat_iff.2 ⟨t,List.mem_of_getLast? d⟩;refine (o.range g).1 x ?_;rw [<-o.psOk.fl,h.ps];rw [h.pp] at h1
  split at h1
  ·rw [List.flatten_append];exact List.mem_append_left _ h1
  ·exact h1
 ·rw [Ex,DB,DA ht] at d;exact g.tn _ (DD ht) x (.inl d.1)
theorem sideP_eq (d:Br m=0) (ht:t<m.tasks.length):BJ m ch t=Bn m t (AH m ch t) ch:=by
 unfold BJ reachO;rw [if_pos ⟨d,by omega,by omega⟩,Int.toNat_natCast]
inductive All2 (P:Int->PT->Prop):List Int->List PT->Prop
 | nil:All2 P [] []
 | cons {n:Int} {p:PT} {l:List Int} {ps:List PT}:P n p->All2 P l ps->All2 P (n :: l) (p :: ps)
theorem kidsR_ok {f:Int->Nat->Int×PT×Nat} {P:Int->PT->Prop}:∀(l:List Int) (k:Nat) (acc:List PT),(∀n∈l,∀k,k<=3000->(f n k).1=0->P n (f n k).2.1/\(f n k).2.2=k+(f n k).2.1.size/\(f n k).2.2<=3000)->k<=3000->(zO f l k acc).1=0->
  ∃ps,(zO f l k acc).2.1=acc++ps/\All2 P l ps/\(zO f l k acc).2.2=k+PT.sizeL ps/\(zO f l k acc).2.2<=3000
 | [],k,acc,_,d,_=>⟨[],by simp [zO],.nil,by simp [zO,PT.sizeL],d⟩
 | n :: l,k,acc,hf,d,h=>by
  unfold zO at h⊢;by_cases h0:(f n k).1=0
  ·rw [if_pos h0] at h⊢;obtain ⟨h1,h2,o⟩:=hf n (En ..) k d h0;obtain ⟨ps,q1,q2,q3,q4⟩:=kidsR_ok l _ (acc++[(f n k).2.1]) (fun n' r=>hf n' (DX _ r)) o h;exact ⟨(f n k).2.1 :: ps,by rw [q1];simp,.cons h1 q2,by rw [q3,h2];simp only [PT.sizeL];omega,q4⟩
  ·rw [if_neg h0] at h;exact absurd h h0
theorem holdsL_of {ps:List PT} (h:All2 (fun n p=>AP m p (ch++[n])=true) l ps):AI m ps ch l=true:=by
 induction h with
 | nil=>simp [AI]
 | cons h1 _ ih=>unfold AI;rw [h1,ih];rfl
theorem incB_of {N:Int}:∀{l:List Int} {b:Int},l.Pairwise (·<·)->(∀x∈l,b<x)->(∀x∈l,x<N)->incB N b l=true
 | [],_,_,_,_=>rfl
 | x :: l,b,hp,h1,h2=>by
  rw [List.pairwise_cons] at hp;unfold incB;rw [DF (h1 x (En ..)),DF (h2 x (En ..)),incB_of hp.2 hp.1 (fun y d=>h2 y (DX _ d))];rfl
theorem cutT_some (h:cutT m ch=some t):zS m ch<=t/\t<m.tasks.length/\offB m ch t=true:=by
 unfold cutT at h;have h1:=List.find?_some h;have h2:=List.mem_of_find?_eq_some h;obtain ⟨k,d,rfl⟩:=Ey.1 h2;rw [Ez] at d;exact ⟨by omega,by omega,h1⟩
theorem cut_holds (r:Br m=0) (J:zw m ch) (h:cutT m ch=some t):cutB m ch t (BJ m ch t) 0=true/\((t:Int)≠zS m ch\/BJ m ch t≠[]):=by
 obtain ⟨h1,h2,E⟩:=cutT_some h;have g:=Am.of r;have d:=g.dim;rcases cur_of r J with ⟨-,h4⟩ | ⟨-,qs,a,Q⟩
 ·omega
 ·have U:=sideP_eq (ch:=ch) r h2;have K:=headP_range r J Q h2;unfold offB at E;rw [DO,EB,DM,DM,Bool.not_eq_true'] at E;obtain ⟨M,h6⟩:=E;refine ⟨?_,h6.symm.imp (fun h=>by omega) id⟩;unfold cutB;rw [if_neg]
  ·rw [Int.toNat_natCast,M,Bool.not_false,Bool.true_and,DO,DO];rw [U];refine ⟨incB_of (reachL_pw ..) (fun x o=>?_) (fun x o=>?_),?_,?_⟩
   ·have:=((BT d).1 o).range d;omega
   ·exact (((BT d).1 o).range d).2
   ·rw [ED];intro x o;exact DF ((BT d).2 (RP.base o (K x o).1 (K x o).2))
   ·unfold wallB;rw [ED];intro x o;rw [ED];intro y B;have I:=(BT d).1 o;unfold BN at B
    split at B
    ·by_cases hf:zl m t y=true
     ·by_cases L:y∈ch
      ·rw [DF L];simp
      ·rw [DF ((BT d).2 (I.step B hf L))];simp
     ·have G:zl m t y=false:=by simpa using hf
      rw [G];simp
    ·cases B
  ·rintro (h7 | h7 | ⟨h7,O⟩ | h7)
   ·omega
   ·omega
   ·rcases h6 with h6 | h6
    ·exact h6 O
    ·omega
   ·exact h7 rfl
theorem Cp {m:MZ} (o:Br m=0):∀(f:Nat) (ch:List Int) (k:Nat),zw m ch->k<=3000->(zr m f ch k).1=0->AP m (zr m f ch k).2.1 ch=true/\(zr m f ch k).2.2=k+(zr m f ch k).2.1.size/\(zr m f ch k).2.2<=3000
 | 0,ch,k,_,_,h=>by simp [zr] at h
 | f+1,ch,k,r,I,h=>by
  unfold zr at h⊢
  split at h
  ·simp at h
  ·rename_i h1
   rw [if_neg h1]
   split at h
   ·simp at h
   ·rename_i h2
    rw [if_neg h2]
    split at h
    ·rename_i t ht
     obtain ⟨d,G⟩:=cut_holds o r ht;refine ⟨?_,by simp [PT.size,PT.sizeL],by show k+1<=3000;omega⟩;unfold AP;rw [if_neg h1,if_pos G];exact d
    ·rename_i E
     have e:zT m ch=Bc m ch:=by unfold zT;rw [if_pos (okC_of o r)]
     simp only at h⊢
     split at h
     ·rename_i d
      rw [if_pos d];obtain ⟨ps,q1,q2,q3,q4⟩:=kidsR_ok (P:=fun n p=>AP m p (ch++[n])=true) (zT m ch) (k+1) [] (fun n E k' B h0=>Cp o f (ch++[n]) k' (.snoc r (by rw [<-e];exact E)) B h0) (by omega) d;rw [q1,List.nil_append];refine ⟨?_,by rw [q3];simp only [PT.size];omega,q4⟩;unfold AP;rw [if_neg h1,if_neg (by simp)];exact holdsL_of q2
     ·rename_i d;exact absurd h d
end
section
open Go.RowKit
attribute [local go_sem ↓] Go.wp_at_zero Go.wp_at_succ
theorem box6 (w:World) (a0 a1 a2 a3 a4 a5:Value):zc w (w.alloc (.cells #[a0,a1,a2,a3,a4,a5] 35))/\
  (∀W,zc (w.alloc (.cells #[a0,a1,a2,a3,a4,a5] 35)) W->W.cell? ⟨w.heap.size,0,none⟩=some a0)/\(∀W,zc (w.alloc (.cells #[a0,a1,a2,a3,a4,a5] 35)) W->W.cell? ⟨w.heap.size,1,none⟩=some a1)/\
  (∀W,zc (w.alloc (.cells #[a0,a1,a2,a3,a4,a5] 35)) W->W.cell? ⟨w.heap.size,2,none⟩=some a2)/\(∀W,zc (w.alloc (.cells #[a0,a1,a2,a3,a4,a5] 35)) W->W.cell? ⟨w.heap.size,3,none⟩=some a3)/\
  (∀W,zc (w.alloc (.cells #[a0,a1,a2,a3,a4,a5] 35)) W->W.cell? ⟨w.heap.size,4,none⟩=some a4)/\(∀W,zc (w.alloc (.cells #[a0,a1,a2,a3,a4,a5] 35)) W->W.cell? ⟨w.heap.size,5,none⟩=some a5):=by
 have d:=zj.new w #[a0,a1,a2,a3,a4,a5] 35 rfl;exact ⟨(zc.refl w).alloc _,zc.rule (d.cell (k:=0) rfl),zc.rule (d.cell (k:=1) rfl),zc.rule (d.cell (k:=2) rfl),zc.rule (d.cell (k:=3) rfl),zc.rule (d.cell (k:=4) rfl),zc.rule (d.cell (k:=5) rfl)⟩
theorem zM.parts {v:Value} (h:zM w ok v m):∃Af cf Au cu At ct,v=.agg #[.int .i64 m.w,.int .i64 m.h,.int .i64 m.l,.slice Af m.free.length cf,.slice Au m.up.length cu,.slice At m.tasks.length ct]/\
  Bd w ok (.slice Af m.free.length cf) m.free/\AZ w ok (.slice Au m.up.length cu) m.up/\BA w ok (.slice At m.tasks.length ct) m.tasks:=by
 obtain ⟨vfr,vup,vts,rfl,hf,B,ht⟩:=h;have d:=hf;have r:=B;have o:=ht;obtain ⟨_,⟨Af,cf,rfl,-⟩,-⟩:=d;obtain ⟨Au,cu,rfl,-⟩:=r;obtain ⟨_,⟨At,ct,rfl,-⟩,-⟩:=o;exact ⟨Af,cf,Au,cu,At,ct,rfl,hf,B,ht⟩
theorem freeCells {W:World} {Af:Option Addr} {cf:Nat} (h:Bd W ok (.slice Af m.free.length cf) m.free) (hfn:∀f∈m.free,(f.length:Int)=m.n) (ht:t<m.free.length) (h0:0<=n) (h1:n<m.n):
  ∃b off b' off' l c',Af=some ⟨b,off,none⟩/\W.cell? ⟨b,off+t,none⟩=some (.slice (some ⟨b',off',none⟩) l c')/\n<(l:Int)/\l<=c'/\m.free.length<=cf/\W.cell? ⟨b',off'+n.toNat,none⟩=some (.bool (zl m t n)):=by
 obtain ⟨vsf,⟨A,c,e,G,M⟩,I⟩:=h;injection e with e1 e2 e3;subst e1 e3;obtain ⟨bf,off3,uf,rfl,_,r,B⟩:=BG M I ht ht;have J:=hfn _ (DD ht);obtain ⟨A4,c4,rfl,E,L⟩:=B;have o:n.toNat<(m.free[t]).length:=by omega
 obtain ⟨b4,off4,rfl,_,d⟩:=CC L o o;have K:(m.free[t])[n.toNat]=zl m t n:=by simp [zl,ht,o]
 rw [K] at d;exact ⟨bf,off3,b4,off4,_,c4,rfl,r,by omega,E,G,d⟩
theorem zG.ext {w':World} (h:zG w w'):zc w w':=h.below _
end
section
open Go.RowKit
def StV (V:Nat->Value->World->Prop):Prop:=∀j x W W',zc W W'->V j x W->V j x W'
theorem StV.ext {V:Nat->Value->World->Prop} (h:StV V) {j:Nat} {x:Value} {W W':World} (d:zc W W') (o:V j x W):V j x W':=h j x W W' d o
section
variable {V:Nat->Value->World->Prop} {D:Nat->List Nat} {w9 W W':World} {A:List Nat} {ja jf js:Nat} {gp:Value} {PA:Value->World->Prop} {PS:World->Prop} {e:Nat->Bool} {v:Nat->Value} {j:Nat} {x:Value}
theorem upd_true {e:Nat->Bool} {j d:Nat} (h:e d=true):zV e j true d=true:=by
 by_cases o:d=j
 ·subst o;exact Bh e d true
 ·rw [Az e true o];exact h
end
def drawV (l:List Int) (k:Nat) (n:Int):Int:=if h:k<l.length then l[k] % n else 0
def drawK (l:List Int) (k:Nat):Nat:=if k<l.length then k+1 else k
theorem draw_calls {v:Value} (gd k:Nat) (n:Int) (w:World) (J:zj w gd 109 #[v,.int .i64 k]) (h:zn w ok v l) (hg:¬ ok gd) (hl:l.length<=9223372036854775807) (hk:k<=l.length) (hn:0<n) (a4:n<=1000000):
  Calls Tryz.prog 60 #[.pointer (some ⟨gd,0,none⟩),.int .i64 n] w fun e w'=>e=.returned (.int .i64 (drawV l k n))/\zj w' gd 109 #[v,.int .i64 (drawK l k)]/\w.grownBy w' (some gd):=by
 obtain ⟨A,c,rfl,hc,hr⟩:=h;have K:=J.cell (k:=0) rfl;have L:=J.cell (k:=1) rfl;have hx:=zc.refl w;by_cases r:k<l.length
 ·obtain ⟨b,off,rfl,a6,d⟩:=Ae hr r r;have a1:b≠gd:=fun e=>hg (e ▸ a6)
  have O:drawV l k n=l[k] % n:=by unfold drawV;rw [dif_pos r]
  have G:drawK l k=k+1:=by unfold drawK;rw [if_pos r]
  rw [O,G];clear O G hr;obtain ⟨x,Q⟩:=EH (l[k]);rw [<-Q] at d⊢;clear Q;have hf:=J.frozen 1;have HB:=zh J;clear J;have hd:decide ((l.length:Int)<=(k:Int))=false:=DG (by omega)
  go_enter Tryz.func60,Tryz.ntmps60
  go_wp2_with fail
  go_quiet (fail)
  generalize M:w.drewN nq=w1;have a2:zG w w1:=⟨nq,M.symm⟩;have E:zc w w1:=a2.below _;have hh:w1.heap=w.heap:=by rw [<-M];rfl
  clear M K L hf;have B:zj w1 gd 109 #[.slice (some ⟨b,off,none⟩) l.length c,.int .i64 k]:=HB.out.ext E;have K:=B.cell (k:=0) rfl;have L:=B.cell (k:=1) rfl;have hf:=B.frozen 1;have o:=E.cell d;have I:Hid (zj (w1.setCell ⟨gd,1,none⟩ (.int .i64 ((k:Int)+1))) gd 109 #[.slice (some ⟨b,off,none⟩) l.length c,.int .i64 ((k:Int)+1)]):=B.set (k:=1) _;have U:(w1.setCell ⟨gd,1,none⟩ (.int .i64 ((k:Int)+1))).cell? ⟨b,off+k,none⟩=some (.int .i64 x):=(DS (w:=w1) (DL w1 _ _ b a1)).trans o;have HG:Hid (w.grownBy (w1.setCell ⟨gd,1,none⟩ (.int .i64 ((k:Int)+1))) (some gd)):=⟨E.os,E.tape,E.output,by simp [hh],fun i hi a5=>by rw [DL w1 _ _ i (fun e=>a5 (by rw [e])),hh]⟩;have a8:=I.out.cell (k:=0) rfl;have a9:=I.out.cell (k:=1) rfl;clear B d;go_upto_region 4 with fail;generalize w1.setCell ⟨gd,1,none⟩ (.int .i64 ((k:Int)+1))=w2 at*;clear K L hf o;have b5:=zc.refl w2;have b3:(k:Int)<(l.length:Int):=by omega
  go_quiet ((go_at_call 25;refine (CP x n _ hn a4).mono ?_;rintro e w9 ⟨a3,rfl⟩;exact ⟨a3,⟨_,rfl⟩⟩))
  go_wp2;go_ret;refine ⟨rfl,I.out.ext ((zc.refl w2).drewN _),?_⟩;have h:=HG.out;exact ⟨h.os,h.tape,h.output,h.size,h.block⟩
 ·have O:drawV l k n=0:=by unfold drawV;rw [dif_neg r]
  have G:drawK l k=k:=by unfold drawK;rw [if_neg r]
  rw [O,G];clear O G hr;have HB:=zh J;clear J;have hd:decide ((l.length:Int)<=(k:Int))=true:=DF (by omega)
  go_enter Tryz.func60,Tryz.ntmps60
  go_wp2_with fail
  go_quiet (fail)
  go_wp2;go_ret;exact ⟨rfl,HB.out,⟨rfl,rfl,rfl,DC _,fun _ _ _=>rfl⟩⟩
end
end Go.Proofs.YtcnaogdgjkpkmaaGreatDoor
