import Derived.Test.YtcnaogdgjkpkmaaGreatDoorWCf
set_option linter.unusedVariables false
set_option linter.unusedSimpArgs false
set_option maxRecDepth 100000
set_option maxHeartbeats 16000000
namespace Go.Proofs.YtcnaogdgjkpkmaaGreatDoor
variable {a:Act} {K:Act->World->Prop} {ops:Array Oper} {Q:Exit->Act->World->Prop} {n:Int} {ps:List (List Int)} {ch p us:List Int} {m:MZ} {B bytes cap g sz t:Nat} {ok:Nat->Prop} {o:Oper} {f ts u v vc z:Value} {W w w':World}
section
open Go.RowKit
structure PathR (m:MZ) (t:Nat) (p:List Int):Prop where
 hd:∀x,p.head?=some x->x∈(m.tasks.getD t ([],[])).1
 fr:∀x∈p,zg m t x=true
 nb:∀k x y,p[k]?=some x->p[k+1]?=some y->y∈zo m x
def FinP (m:MZ) (t:Nat) (p:List Int):Prop:=∃x,p.getLast?=some x/\x∈(m.tasks.getD t ([],[])).2
theorem PathR.nil (m:MZ) (t:Nat):PathR m t []:=⟨(fun x h=>by cases h),(fun x h=>by cases h),(fun k x y h=>by simp at h)⟩
theorem PathR.snoc {m:MZ} {t:Nat} {p:List Int} {n:Int} (h:PathR m t p) (hf:zg m t n=true) (h0:p=[]->n∈(m.tasks.getD t ([],[])).1) (h1:∀x,p.getLast?=some x->n∈zo m x):PathR m t (p++[n]):=by
 refine ⟨fun x hx=>?_,fun x hx=>?_,fun k x y hx d=>?_⟩
 ·cases p with
  | nil=>
   have:n=x:=by simpa using hx
   subst this;exact h0 rfl
  | cons a p=>exact h.hd x (by simpa using hx)
 ·rcases DK.1 hx with hx | hx
  ·exact h.fr x hx
  ·rw [DD] at hx;subst hx;exact hf
 ·rcases Dv (k+1) p.length with hk | hk
  ·rw [Dd (by omega)] at hx;rw [Dd hk] at d;exact h.nb k x y hx d
  ·have r:k+1<(p++[n]).length:=by
    rcases Dv (k+1) (p++[n]).length with h2 | h2
    ·exact h2
    ·rw [Dr h2] at d;cases d
   have D:k+1=p.length:=by simp at r;omega
   rw [De (by omega),show k+1 - p.length=0 from by omega] at d;have:n=y:=by simpa using d
   subst this;rw [Dd (by omega)] at hx;refine h1 x ?_;rw [List.getLast?_eq_getElem?,show p.length - 1=k from by omega];exact hx
structure PsR (m:MZ) (ps:List (List Int)):Prop where
 one:∀t p,ps[t]?=some p->PathR m t p
 fin:∀t p,ps[t]?=some p->t+1<ps.length->FinP m t p
theorem cand_step (h:n∈Bu m ps us):zg m (ps.length - 1) n=true/\((ps.getD (ps.length - 1) [])=[]->n∈(m.tasks.getD (ps.length - 1) ([],[])).1)/\(∀x,(ps.getD (ps.length - 1) []).getLast?=some x->n∈zo m x):=by
 unfold Bu at h
 split at h
 ·cases h
 ·split at h
  ·rename_i d
   obtain ⟨h1,h2⟩:=DP.1 h;simp only [Dm] at h2;exact ⟨h2.1,fun _=>mem_sortL.1 (CM h1),fun x D=>by rw [d] at D;cases D⟩
  ·rename_i x d
   obtain ⟨h1,h2⟩:=DP.1 h;unfold zx at h2;simp only [Dm] at h2;refine ⟨h2.1.1.1,(fun h0=>by rw [h0] at d;cases d),fun y r=>?_⟩;rw [d] at r;injection r with r;subst r;exact h1
theorem PsR.add (h:PsR m ps) (hp:0<ps.length) (J:n∈Bu m ps us):PsR m (addN ps n):=by
 obtain ⟨h1,h2,D⟩:=cand_step J;obtain ⟨qs,p,rfl,he⟩:=addN_eq hp n;rw [he];have I:(qs++[p]).length - 1=qs.length:=by simp
 have G:(qs++[p]).getD qs.length []=p:=by simp
 rw [I] at h1 h2 D;rw [G] at h2 D;refine ⟨fun t q r=>?_,fun t q r ht=>?_⟩
 ·rcases Dv t qs.length with d | hge
  ·rw [Dd d] at r;exact h.one t q (by rw [Dd d];exact r)
  ·have E:t=qs.length:=by
    rcases Dv t (qs++[p++[n]]).length with h4 | h4
    ·simp at h4;omega
    ·rw [Dr h4] at r;cases r
   subst E;rw [De (CY _),Nat.sub_self] at r;have:p++[n]=q:=by simpa using r
   subst this;exact (h.one qs.length p (by simp)).snoc h1 h2 D
 ·have d:t<qs.length:=by simp at ht;omega
  rw [Dd d] at r;exact h.fin t q (by rw [Dd d];exact r) (by simp;omega)
theorem PsR.with {m:MZ} {ps:List (List Int)} {us:List Int} {n:Int} (h:PsR m ps) (hp:0<ps.length) (G:n∈Bu m ps us):PsR m (AK m ps n):=by
 have h1:=h.add hp G;unfold AK
 split
 ·rename_i hf
  have d:(addN ps n).length=ps.length:=BP
  have hF:∀t p,(addN ps n)[t]?=some p->t+1=ps.length->FinP m t p:=fun t p ht he=>by
   have h2:=hf.1;unfold finB at h2;rw [d,show ps.length - 1=t from by omega,CX,ht] at h2;simp only [Option.getD_some] at h2
   split at h2
   ·cases h2
   ·rename_i x I
    exact ⟨x,I,DU h2⟩
  refine ⟨fun t p ht=>?_,fun t p ht r=>?_⟩
  ·rcases Dv t (addN ps n).length with h2 | h2
   ·rw [Dd h2] at ht;exact h1.one t p ht
   ·rw [De h2] at ht
    have D:p=[]:=by
     cases E:t - (addN ps n).length with
     | zero=>rw [E] at ht;simpa using ht.symm
     | succ j=>rw [E] at ht;simp at ht
    subst D;exact PathR.nil m t
  ·have h2:t<(addN ps n).length:=by simp at r;omega
   rw [Dd h2] at ht;rcases Dv (t+1) (addN ps n).length with h3 | h3
   ·exact h1.fin t p ht h3
   ·exact hF t p ht (by omega)
 ·exact h1
theorem zG.psR (h:zG m ch):PsR m (Ao m ch):=by
 induction h with
 | nil=>
  rw [psOf_nil];unfold ps0
  split
  ·exact ⟨fun t p h=>by simp at h,fun t p h=>by simp at h⟩
  ·refine ⟨fun t p h=>?_,fun t p h r=>by simp at r⟩
   match t,h with
   | 0,h=>
    have:p=[]:=by simpa using h.symm
    subst this;exact PathR.nil m 0
 | @snoc ch n h d ih=>
  rw [psOf_snoc];exact ih.with (h.psOk.pn (Bo (BJ d))) d
theorem zG.all (h:zG m ch) (d:cmpC m ch=true):(Ao m ch).length=m.tasks.length/\(∀t p,(Ao m ch)[t]?=some p->PathR m t p/\FinP m t p):=by
 have r:=h.psR;have D:=h.psOk;unfold cmpC cmpB at d;rw [Bool.or_eq_true,Dj,Dm,Dj] at d;rcases d with h0 | ⟨h0,h1⟩
 ·have:=D.pl;refine ⟨by omega,fun t p ht=>?_⟩;rw [Dr (by omega)] at ht;cases ht
 ·refine ⟨h0,fun t p ht=>⟨r.one t p ht,?_⟩⟩
  have E:t<(Ao m ch).length:=by
   rcases Dv t (Ao m ch).length with h2 | h2
   ·exact h2
   ·rw [Dr h2] at ht;cases ht
  rcases Dv (t+1) (Ao m ch).length with h2 | h2
  ·exact r.fin t p ht h2
  ·unfold finB at h1;rw [show (Ao m ch).length - 1=t from by omega,CX,ht] at h1;simp only [Option.getD_some] at h1
   split at h1
   ·cases h1
   ·rename_i x G
    exact ⟨x,G,DU h1⟩
theorem okC_of (d:Cc m=0) (h:zG m ch):okC m ch=true:=by
 unfold okC;rw [Db d,Ck.2 h];rfl
theorem curF_eq {m:MZ} {pp:List (List Int)} {c:Nat}:∀(f t:Nat),t<=c->c<=t+f->(∀j,t<=j->j<c->j<pp.length/\endB m pp j=true)->¬ (c<pp.length/\endB m pp c=true)->curF m pp f t=c
 | 0,t,h0,h1,_,_=>by unfold curF;omega
 | f+1,t,h0,h1,h2,r=>by
  unfold curF;by_cases h:t=c
  ·subst h;rw [if_neg r]
  ·rw [if_pos (h2 t (CY _) (by omega))];exact curF_eq f (t+1) (by omega) (by omega) (fun j D d=>h2 j (by omega) d) r
theorem fin_last (h:zG m ch) (d:(Ao m ch).length<m.tasks.length):finB m (Ao m ch)=false:=by
 have r:∀l:List (List Int),finB m (l++[[]])=false:=fun l=>by
  unfold finB
  have:(l++[([]:List Int)]).getD ((l++[([]:List Int)]).length - 1) []=[]:=by
   rw [Dh,Dx,Nat.add_sub_cancel,CX,De (CY _)];simp
  rw [this];rfl
 cases h with
 | nil=>
  rw [psOf_nil] at d⊢;unfold ps0 at d⊢
  split
  ·rename_i h0;omega
  ·exact r []
 | @snoc ch n h D=>
  rw [psOf_snoc] at d⊢;unfold AK at d⊢
  split
  ·exact r _
  ·rename_i h0
   rw [if_neg h0,BP] at d
   cases hf:finB m (addN (Ao m ch) n) with
   | false=>rfl
   | true=>exact absurd ⟨hf,d⟩ h0
structure Cur (m:MZ) (ch:List Int) (qs:List (List Int)) (a:List Int):Prop where
 ps:Ao m ch=qs++[a]
 lt:qs.length<m.tasks.length
 cur:zD m ch=qs.length
 pp:zl m ch=if a=[] then qs else qs++[a]
theorem ne_of_fin (h:FinP m t p):p≠[]:=by
 obtain ⟨x,d,-⟩:=h;intro e;subst e;cases d
theorem endB_fin {pp:List (List Int)} (hp:pp[t]?=some p) (h:FinP m t p):endB m pp t=true:=by
 obtain ⟨x,d,h2⟩:=h;unfold endB;rw [CX,hp,Option.getD_some,d];exact Db h2
theorem filter_ne {l:List (List Int)} (h:∀q∈l,q≠[]):l.filter (fun p=>decide (p.length≠0))=l:=
 List.filter_eq_self.2 fun q d=>Db (fun e=>h q d (List.length_eq_zero_iff.1 e))
theorem cur_of (hc:Cc m=0) (h:zG m ch):(cmpC m ch=true/\zD m ch=m.tasks.length)\/(cmpC m ch=false/\∃qs a,Cur m ch qs a):=by
 have g:=AF.of hc;have hO:=h.psOk;have hR:=h.psR;have V:zl m ch=(Ao m ch).filter (fun p=>decide (p.length≠0)):=by unfold zl;rw [if_pos (okC_of hc h)]
 cases D:cmpC m ch with
 | true=>
  left
  obtain ⟨h1,h2⟩:=h.all D
  have M:zl m ch=Ao m ch:=by
   rw [V];refine filter_ne fun q hq=>?_
   obtain ⟨i,hi,rfl⟩:=DC hq;exact ne_of_fin (h2 i _ (CW hi)).2
  refine ⟨rfl,?_⟩;unfold zD;rw [M];refine curF_eq _ _ (Do _) (by omega) (fun j _ d=>?_) (fun hx=>by omega);have J:j<(Ao m ch).length:=by omega
  exact ⟨J,endB_fin (CW J) (h2 j _ (CW J)).2⟩
 | false=>
  right
  refine ⟨rfl,?_⟩;have ht:=Bo (ps:=Ao m ch) D;have I:=hO.pn ht;rcases List.eq_nil_or_concat (Ao m ch) with he | ⟨qs,a,he⟩
  ·rw [he] at I;cases I
  ·rw [List.concat_eq_append] at he;have G:(Ao m ch).length=qs.length+1:=by rw [he];simp
   have E:∀j (d:j<qs.length),FinP m j qs[j]:=fun j d=>hR.fin j _ (by rw [he,Dd d,CW d]) (by omega)
   have a4:∀q∈qs,q≠[]:=fun q hq=>by
    obtain ⟨i,hi,rfl⟩:=DC hq;exact ne_of_fin (E i hi)
   have r:zl m ch=if a=[] then qs else qs++[a]:=by
    rw [V,he,List.filter_append,filter_ne a4];by_cases L:a=[]
    ·subst L;simp
    ·rw [if_neg L,filter_ne (l:=[a]) (by simpa using L)]
   have b1:=hO.pl;refine ⟨qs,a,he,by omega,?_,r⟩
   have d:∀j (d:j<qs.length),(zl m ch)[j]?=some qs[j]:=fun j d=>by
    rw [r]
    split
    ·exact CW d
    ·rw [Dd d,CW d]
   unfold zD;refine curF_eq _ _ (Do _) ?_ (fun j _ U=>?_) ?_
   ·rw [r];split <;> simp
   ·have h3:=d j U;obtain ⟨h4,-⟩:=List.getElem?_eq_some_iff.1 h3;exact ⟨h4,endB_fin h3 (E j U)⟩
   ·rintro ⟨h4,h5⟩;have L:a≠[]:=fun e=>by rw [r,if_pos e] at h4;omega
    have h6:(zl m ch).getD qs.length []=a:=by
     rw [r,if_neg L,CX,De (CY _)];simp
    unfold endB at h5;rw [h6] at h5
    have O:finB m (Ao m ch)=true:=by
     unfold finB;rw [G,Nat.add_sub_cancel]
     have:(Ao m ch).getD qs.length []=a:=by
      rw [he,CX,De (CY _)];simp
     rw [this];exact h5
    unfold cmpC cmpB at D;rw [O,Bool.and_true,Bool.or_eq_false_iff,Dw,Dw] at D;have h7:qs.length+1<m.tasks.length:=by omega
    exact absurd O (by rw [fin_last h (by rw [G];exact h7)];simp)
theorem headP_range {qs:List (List Int)} {a:List Int} (D:Cc m=0) (r:zG m ch) (h:Cur m ch qs a) (ht:t<m.tasks.length):∀x∈AC m ch t,0<=x/\x<m.n:=by
 have g:=AF.of D;intro x d;unfold AC at d
 split at d
 ·rw [Option.mem_toList] at d;have h1:x∈(zl m ch).flatten:=mem_flat_iff.2 ⟨t,List.mem_of_getLast? d⟩;refine (r.range g).1 x ?_;rw [<-r.psOk.fl,h.ps];rw [h.pp] at h1
  split at h1
  ·rw [List.flatten_append];exact List.mem_append_left _ h1
  ·exact h1
 ·rw [DP,CX,CW ht] at d;exact g.tn _ (CZ ht) x (.inl d.1)
theorem sideP_eq (d:Cc m=0) (ht:t<m.tasks.length):BE m ch t=BX m t (AC m ch t) ch:=by
 unfold BE reachO;rw [if_pos ⟨d,by omega,by omega⟩,DL]
inductive All2 (P:Int->PT->Prop):List Int->List PT->Prop
 | nil:All2 P [] []
 | cons {n:Int} {p:PT} {l:List Int} {ps:List PT}:P n p->All2 P l ps->All2 P (n :: l) (p :: ps)
theorem kidsR_ok {f:Int->Nat->Int×PT×Nat} {P:Int->PT->Prop}:∀(l:List Int) (k:Nat) (acc:List PT),(∀n∈l,∀k,k<=3000->(f n k).1=0->P n (f n k).2.1/\(f n k).2.2=k+(f n k).2.1.size/\(f n k).2.2<=3000)->k<=3000->(zF f l k acc).1=0->
  ∃ps,(zF f l k acc).2.1=acc++ps/\All2 P l ps/\(zF f l k acc).2.2=k+PT.sizeL ps/\(zF f l k acc).2.2<=3000
 | [],k,acc,_,d,_=>⟨[],by simp [zF],.nil,by simp [zF,PT.sizeL],d⟩
 | n :: l,k,acc,hf,d,h=>by
  unfold zF at h⊢;by_cases h0:(f n k).1=0
  ·rw [if_pos h0] at h⊢;obtain ⟨h1,h2,r⟩:=hf n (DH ..) k d h0;obtain ⟨ps,q1,q2,q3,q4⟩:=kidsR_ok l _ (acc++[(f n k).2.1]) (fun n' D=>hf n' (Dt _ D)) r h;exact ⟨(f n k).2.1 :: ps,by rw [q1];simp,.cons h1 q2,by rw [q3,h2];simp only [PT.sizeL];omega,q4⟩
  ·rw [if_neg h0] at h;exact absurd h h0
theorem holdsL_of {l:List Int} {ps:List PT} (h:All2 (fun n p=>AB m p (ch++[n])=true) l ps):AA m ps ch l=true:=by
 induction h with
 | nil=>simp [AA]
 | cons h1 _ ih=>unfold AA;rw [h1,ih];rfl
theorem incB_of {N:Int}:∀{l:List Int} {b:Int},l.Pairwise (·<·)->(∀x∈l,b<x)->(∀x∈l,x<N)->incB N b l=true
 | [],_,_,_,_=>rfl
 | x :: l,b,hp,h1,h2=>by
  rw [List.pairwise_cons] at hp;unfold incB;rw [Db (h1 x (DH ..)),Db (h2 x (DH ..)),incB_of hp.2 hp.1 (fun y d=>h2 y (Dt _ d))];rfl
theorem cutT_some (h:cutT m ch=some t):zD m ch<=t/\t<m.tasks.length/\offB m ch t=true:=by
 unfold cutT at h;have h1:=List.find?_some h;have h2:=List.mem_of_find?_eq_some h;obtain ⟨k,d,rfl⟩:=DQ.1 h2;rw [DR] at d;exact ⟨by omega,by omega,h1⟩
theorem cut_holds (D:Cc m=0) (L:zG m ch) (h:cutT m ch=some t):cutB m ch t (BE m ch t) 0=true/\((t:Int)≠zD m ch\/BE m ch t≠[]):=by
 obtain ⟨h1,h2,G⟩:=cutT_some h;have g:=AF.of D;have d:=g.dim;rcases cur_of D L with ⟨-,h4⟩ | ⟨-,qs,a,hC⟩
 ·omega
 ·have hs:=sideP_eq (ch:=ch) D h2;have M:=headP_range D L hC h2;unfold offB at G;rw [Dm,Bool.or_eq_true,Dj,Dj,Bool.not_eq_true'] at G;obtain ⟨U,h6⟩:=G;refine ⟨?_,h6.symm.imp (fun h=>by omega) id⟩;unfold cutB;rw [if_neg]
  ·rw [DL,U,Bool.not_false,Bool.true_and,Dm,Dm];rw [hs];refine ⟨incB_of (reachL_pw ..) (fun x r=>?_) (fun x r=>?_),?_,?_⟩
   ·have:=((BW d).1 r).range d;omega
   ·exact (((BW d).1 r).range d).2
   ·rw [DT];intro x r;exact Db ((BW d).2 (RP.base r (M x r).1 (M x r).2))
   ·unfold wallB;rw [DT];intro x r;rw [DT];intro y E;have J:=(BW d).1 r;unfold Bz at E
    split at E
    ·by_cases hf:zg m t y=true
     ·by_cases O:y∈ch
      ·rw [Db O];simp
      ·rw [Db ((BW d).2 (J.step E hf O))];simp
     ·have I:zg m t y=false:=by simpa using hf
      rw [I];simp
    ·cases E
  ·rintro (h7 | h7 | ⟨h7,V⟩ | h7)
   ·omega
   ·omega
   ·rcases h6 with h6 | h6
    ·exact h6 V
    ·omega
   ·exact h7 rfl
theorem Cn {m:MZ} (r:Cc m=0):∀(f:Nat) (ch:List Int) (k:Nat),zG m ch->k<=3000->(zn m f ch k).1=0->AB m (zn m f ch k).2.1 ch=true/\(zn m f ch k).2.2=k+(zn m f ch k).2.1.size/\(zn m f ch k).2.2<=3000
 | 0,ch,k,_,_,h=>by simp [zn] at h
 | f+1,ch,k,D,J,h=>by
  unfold zn at h⊢
  split at h
  ·simp at h
  ·rename_i h1
   rw [if_neg h1]
   split at h
   ·simp at h
   ·rename_i h2
    rw [if_neg h2]
    split at h
    ·rename_i t ht
     obtain ⟨d,I⟩:=cut_holds r D ht;refine ⟨?_,by simp [PT.size,PT.sizeL],by show k+1<=3000;omega⟩;unfold AB;rw [if_neg h1,if_pos I];exact d
    ·rename_i G
     have e:zP m ch=cand m ch:=by unfold zP;rw [if_pos (okC_of r D)]
     simp only at h⊢
     split at h
     ·rename_i d
      rw [if_pos d];obtain ⟨ps,q1,q2,q3,q4⟩:=kidsR_ok (P:=fun n p=>AB m p (ch++[n])=true) (zP m ch) (k+1) [] (fun n G k' E h0=>Cn r f (ch++[n]) k' (.snoc D (by rw [<-e];exact G)) E h0) (by omega) d;rw [q1,List.nil_append];refine ⟨?_,by rw [q3];simp only [PT.size];omega,q4⟩;unfold AB;rw [if_neg h1,if_neg (by simp)];exact holdsL_of q2
     ·rename_i d;exact absurd h d
end
section
open Go.RowKit
attribute [local go_sem ↓] Go.wp_at_zero Go.wp_at_succ
theorem box6 (w:World) (a0 a1 a2 a3 a4 a5:Value):za w (w.alloc (.cells #[a0,a1,a2,a3,a4,a5] 35))/\
  (∀W,za (w.alloc (.cells #[a0,a1,a2,a3,a4,a5] 35)) W->W.cell? ⟨w.heap.size,0,none⟩=some a0)/\(∀W,za (w.alloc (.cells #[a0,a1,a2,a3,a4,a5] 35)) W->W.cell? ⟨w.heap.size,1,none⟩=some a1)/\
  (∀W,za (w.alloc (.cells #[a0,a1,a2,a3,a4,a5] 35)) W->W.cell? ⟨w.heap.size,2,none⟩=some a2)/\(∀W,za (w.alloc (.cells #[a0,a1,a2,a3,a4,a5] 35)) W->W.cell? ⟨w.heap.size,3,none⟩=some a3)/\
  (∀W,za (w.alloc (.cells #[a0,a1,a2,a3,a4,a5] 35)) W->W.cell? ⟨w.heap.size,4,none⟩=some a4)/\(∀W,za (w.alloc (.cells #[a0,a1,a2,a3,a4,a5] 35)) W->W.cell? ⟨w.heap.size,5,none⟩=some a5):=by
 have d:=ze.new w #[a0,a1,a2,a3,a4,a5] 35 rfl;exact ⟨(za.refl w).alloc _,za.rule (d.cell (k:=0) rfl),za.rule (d.cell (k:=1) rfl),za.rule (d.cell (k:=2) rfl),za.rule (d.cell (k:=3) rfl),za.rule (d.cell (k:=4) rfl),za.rule (d.cell (k:=5) rfl)⟩
theorem box1 (w:World) (a:Value) (t:TypeId):za w (w.alloc (.cells #[a] t))/\∀W,za (w.alloc (.cells #[a] t)) W->W.cell? ⟨w.heap.size,0,none⟩=some a:=
 ⟨(za.refl w).alloc _,za.rule ((ze.new w #[a] t rfl).cell (k:=0) rfl)⟩
theorem zL.parts (h:zL w ok v m):∃Af cf Au cu At ct,v=.agg #[.int .i64 m.w,.int .i64 m.h,.int .i64 m.l,.slice Af m.free.length cf,.slice Au m.up.length cu,.slice At m.tasks.length ct]/\
  AE w ok (.slice Af m.free.length cf) m.free/\AO w ok (.slice Au m.up.length cu) m.up/\Bd w ok (.slice At m.tasks.length ct) m.tasks:=by
 obtain ⟨vfr,vup,vts,rfl,hf,E,ht⟩:=h;have d:=hf;have D:=E;have r:=ht;obtain ⟨_,⟨Af,cf,rfl,-⟩,-⟩:=d;obtain ⟨Au,cu,rfl,-⟩:=D;obtain ⟨_,⟨At,ct,rfl,-⟩,-⟩:=r;exact ⟨Af,cf,Au,cu,At,ct,rfl,hf,E,ht⟩
theorem freeCells {Af:Option Addr} {cf:Nat} (h:AE W ok (.slice Af m.free.length cf) m.free) (hfn:∀f∈m.free,(f.length:Int)=m.n) (ht:t<m.free.length) (h0:0<=n) (h1:n<m.n):
  ∃b off b' off' l c',Af=some ⟨b,off,none⟩/\W.cell? ⟨b,off+t,none⟩=some (.slice (some ⟨b',off',none⟩) l c')/\n<(l:Int)/\l<=c'/\m.free.length<=cf/\W.cell? ⟨b',off'+n.toNat,none⟩=some (.bool (zg m t n)):=by
 obtain ⟨vsf,⟨A,c,e,I,U⟩,J⟩:=h;injection e with e1 e2 e3;subst e1 e3;obtain ⟨bf,off3,uf,rfl,_,D,E⟩:=eachAt U J ht ht;have L:=hfn _ (CZ ht);obtain ⟨A4,c4,rfl,G,O⟩:=E;have r:n.toNat<(m.free[t]).length:=by omega
 obtain ⟨b4,off4,rfl,_,d⟩:=Cr O r r;have M:(m.free[t])[n.toNat]=zg m t n:=by simp [zg,ht,r]
 rw [M] at d;exact ⟨bf,off3,b4,off4,_,c4,rfl,D,by omega,G,I,d⟩
theorem zM.ext (h:zM w w'):za w w':=h.below _
end
section
open Go.RowKit
structure ElemI (t e:TypeId) (z:Value) (sz bytes:Nat):Prop where
 ht:Tryz.prog.underlying t=some (.slice e)
 hi:(Tryz.prog.info? e).map (fun i=>(i.zero,i.size,i.bytes))=some (some z,sz,bytes)
 hz:z.cells.size=sz
 h0:0<sz
theorem run_append_rowS (w:World) (base:Nat) (t ty e:TypeId) (z:Value) (sz bytes:Nat) (I:ElemI t e z sz bytes)
  (v:Value) (n:Nat) (xs:List Value) (E:w.ownsRow base e sz v n xs) (u:Value) (m:Nat) (news:List Value) (hu:Ay w ok sz u m news) (h1:∀u∈news,u.oneCell'=true)
  (L:n+m<=maxLen) (r:(n+m)*bytes<=140737488355328) (G:base<=w.heap.size):
  ∃v' w',(Builtin.append_ #[t,t] ty #[v,u]).run Tryz.prog w=.ok v' w'/\w'.ownsRow base e sz v' (n+m) (xs++news)/\w.grownBy w' v.ownBlock/\(v'.ownBlock=v.ownBlock\/v'.ownBlock=some w.heap.size):=by
 obtain ⟨i,U,hz,d,M⟩:=info_parts I.hi;have ht:=I.ht;have O:=I.hz;have J:=I.h0;obtain ⟨A,c,rfl,hc,hl,D⟩:=hu;rcases A with _ | a
 ·have hm:m=0:=by
   rcases DG m with h | h
   ·exact h
   ·obtain ⟨b,off,e,_⟩:=D h;cases e
  subst hm;have hn:news=[]:=Dq (by simpa using hl);subst hn;refine ⟨v,w,?_,by simpa using E,⟨rfl,rfl,rfl,CY _,fun _ _ _=>rfl⟩,.inl rfl⟩;rcases E.2 with ⟨rfl,rfl⟩ | ⟨g,cap,cur,rfl,a7,hg,b1,a8,a9,a4⟩
  ·simp [Builtin.append_,run_underlying ht,sizeOf,typeInfo,U,d,Builtin.lenOf,Builtin.firstCells,loadCells,loadCellsFrom]
  ·have h:=run_append_room_src (P:=Tryz.prog) w t t ty e i ht U g 0 n cap (.slice none 0 c) 0 [] (by rw [d];exact Src.ofNil w ht c) (by omega) (by simp) (by simp);rw [setCells_nil] at h;simpa using h
 ·rcases DG m with h0 | hmp
  ·subst h0;have hn:news=[]:=Dq (by simpa using hl);subst hn;obtain ⟨v',w',h1,h2,V,h4,h5⟩:=run_append_own_at (P:=Tryz.prog) w base t ty e i z sz bytes ht U hz d M O J v n xs E a 0 c [] (by simp) (by simp) (by simp) L r G;exact ⟨v',w',h1,h2,V,h5⟩
  ·obtain ⟨b,off,he,_,a1⟩:=D hmp;injection he with he;subst he;obtain ⟨v',w',h1,h2,V,h4,h5⟩:=run_append_own_at (P:=Tryz.prog) w base t ty e i z sz bytes ht U hz d M O J v n xs E ⟨b,off,none⟩ m c news hl (fun j u hj=>by rw [Addr.add_lit];exact a1 j u hj) h1 L r G;exact ⟨v',w',h1,h2,V,h5⟩
theorem wp_append_row (W:World) (s x:Operand) {t e:TypeId} (I:ElemI t e z sz bytes)
  (L:o.op=.call { callee:=.builtin .append,args:=#[s,x],argTypes:=#[t,t] }) (base n m:Nat) (l l2:List Value) (v u:Value) (O:a.eval s=v) (V:a.eval x=u)
  (r:W.ownsRow base e sz v n l) (U:Ay W ok sz u m l2) (h1:∀u∈l2,u.oneCell'=true) (d:base<=W.heap.size) (D:n+m<=maxLen) (J:(n+m)*bytes<=140737488355328)
  (h:∀v' w',w'.ownsRow base e sz v' (n+m) (l++l2)->W.grownBy w' v.ownBlock->(v'.ownBlock=v.ownBlock\/v'.ownBlock=some W.heap.size)->K (a.put o.dst v') w'):Oper.wp Tryz.prog o a W K Q:=by
 obtain ⟨v',w',M,h2,E,G⟩:=run_append_rowS (ok:=ok) W base t o.type e z sz bytes I v n l r u m l2 U h1 D J d;unfold Oper.wp execOp;simp only [L,resolve,invoke,builtin,Sem.run_bind,Sem.run_pure,Result.andThen_ok,List.map_toArray,List.map_cons,List.map_nil,O,V,M];exact h v' w' h2 E G
theorem wpList_append_row {rest:List Oper} (E:o.guard=none) (W:World) (s x:Operand) {t e:TypeId} (I:ElemI t e z sz bytes)
  (M:o.op=.call { callee:=.builtin .append,args:=#[s,x],argTypes:=#[t,t] }) (base n m:Nat) (l l2:List Value) (v u:Value) (O:a.eval s=v) (V:a.eval x=u)
  (r:W.ownsRow base e sz v n l) (U:Ay W ok sz u m l2) (h1:∀u∈l2,u.oneCell'=true) (d:base<=W.heap.size) (D:n+m<=maxLen) (L:(n+m)*bytes<=140737488355328)
  (h:∀v' w',w'.ownsRow base e sz v' (n+m) (l++l2)->W.grownBy w' v.ownBlock->(v'.ownBlock=v.ownBlock\/v'.ownBlock=some W.heap.size)->wpList Tryz.prog ops Q rest (a.put o.dst v') w'):wpList Tryz.prog ops Q (o :: rest) a W:=by
 refine wpList_plain E fun K J=>?_
 exact wp_append_row W s x I M base n m l l2 v u O V r U h1 d D L fun v' w' h1 h2 G=>J _ _ (h v' w' h1 h2 G)
theorem zu {E:Prop} (G:o.guard=none) (W:World) (s x:Operand) {t e:TypeId} (I:ElemI t e z sz bytes)
  (L:o.op=.call { callee:=.builtin .append,args:=#[s,x],argTypes:=#[t,t] }) (base n m:Nat) (l l2:List Value) (v u:Value) (M:a.eval s=v) (V:a.eval x=u)
  (r:W.ownsRow base e sz v n l) (O:Ay W ok sz u m l2) (h1:∀u∈l2,u.oneCell'=true) (d:base<=W.heap.size) (D:n+m<=maxLen) (J:(n+m)*bytes<=140737488355328)
  (h:∀v' w',w'.ownsRow base e sz v' (n+m) (l++l2)->W.grownBy w' v.ownBlock->(v'.ownBlock=v.ownBlock\/v'.ownBlock=some W.heap.size)->K (a.put o.dst v') w'):
  if Region.wanted o (yielded ops a.tmps)=true then Oper.wp Tryz.prog o a W K Q else E:=by
 have U:Region.wanted o (yielded ops a.tmps)=true:=by simp [Region.wanted,G]
 rw [if_pos U];exact wp_append_row W s x I L base n m l l2 v u M V r O h1 d D J h
theorem eBools:ElemI 31 32 (.slice none 0 0) 1 24:=⟨Tryz.underlying31,Tryz.infoBools,rfl,by decide⟩
end
section
open Go.RowKit Go.Shelf Go.Sort
attribute [local go_sem ↓] Go.wp_at_zero Go.wp_at_succ
def dfLA_ren:Go.Shelf.Ren:=⟨fun | 10=>106 | 6=>134 | n=>n,fun | 22=>22 | 23=>24 | 25=>142 | 3=>3 | 4=>4 | 0=>0 | n=>n,fun | n=>n⟩
theorem dfLA:Go.Proofs.SlLaysH.n10 Tryz.prog dfLA_ren:={
 mixed:=by kernel_rfl
 f6:=⟨Tryz.f134.name,by decide,Tryz.func134.trans (congrArg some (by kernel_rfl))⟩
 f10:=⟨Tryz.f106.name,by decide,Tryz.func106.trans (congrArg some (by kernel_rfl))⟩
 t0:=Tryz.underlying0
 a0:=Tryz.isAgg0
 z0:=Tryz.sizeOf0
 v0:=Tryz.zeroValue0
 t3:=Tryz.underlying3
 a3:=Tryz.isAgg3
 z3:=Tryz.sizeOf3
 v3:=Tryz.zeroValue3
 t4:=Tryz.underlying4
 a4:=Tryz.isAgg4
 z4:=Tryz.sizeOf4
 v4:=Tryz.zeroValue4
 t22:=Tryz.underlying22
 a22:=Tryz.isAgg22
 z22:=Tryz.sizeOf22
 v22:=Tryz.zeroValue22
 a23:=Tryz.isAgg24
 z23:=Tryz.sizeOf24
 t25:=Tryz.underlying142
 a25:=Tryz.isAgg142
 z25:=Tryz.sizeOf142
 v25:=Tryz.zeroValue142 }
abbrev SlV:={ v:Value // ∃A n c,v=.slice A n c }
def slLen (v:Value):Nat:=match v with | .slice _ n _=>n | _=>0
theorem holds_sl {l:List SlV} [Inhabited SlV] (h:OwnL w B (.slice (some ⟨g,0,none⟩) (l.map (·.1)).length cap) (l.map (·.1))):Holds (fun x:SlV=>x.1) w g 0 l.toArray:=by
 intro j r;have d:j<l.length:=by simpa using r
 refine ⟨?_,by have:=World.ownsRow.frozenAt h j;simpa using this⟩;have:=World.ownsRow.cellAt h j (by simpa using d);rw [Nat.zero_add,this];simp [getElem!_pos,d]
theorem cf75 (a:Array Value) (w:World):(callFunc 108 a).run Tryz.prog w=.ok (.enter 108 a) w:=Ae Tryz.func108 (by kernel_rfl) (by kernel_rfl) a w
theorem paths1_sl (x:SlV) (w:World):Calls Tryz.prog 108 (#[x.1]++#[]) w fun e w'=>e=.returned (.bool (decide (slLen x.1=0)))/\w=w':=by
 obtain ⟨_,A,n,c,rfl⟩:=x;show Calls Tryz.prog 108 #[.slice A n c] w _;by_cases d:n=0
 ·subst d
  go_enter Tryz.func108,Tryz.ntmps108
  go_wp2;go_ret;exact ⟨rfl,rfl⟩
 ·have r:((n:Int)==0)=false:=by rw [Dn];omega
  have H:Hid (decide (slLen (.slice A n c)=0)=false):=Dc d;clear d
  go_enter Tryz.func108,Tryz.ntmps108
  go_wp2;go_ret;exact ⟨zi H.out.symm,rfl⟩
theorem deleteFuncL_calls {l:List SlV} (D:OwnL w B (.slice (some ⟨g,0,none⟩) (l.map (·.1)).length cap) (l.map (·.1))) (M:l.length<=1000000):
  Calls Tryz.prog 106 #[.slice (some ⟨g,0,none⟩) (l.map (·.1)).length cap,.func (.func 108) #[] #[]] w fun e w'=>∃v',e=.returned v'/\OwnL w' B v' ((l.filter fun x=>!decide (slLen x.1=0)).map (·.1))/\Below B w w':=by
 letI:Inhabited SlV:=⟨⟨.slice none 0 0,_,_,_,rfl⟩⟩
 have r:=own_cap D;have I:B<=g:=(World.ownsRow.lt D g rfl).1;have d:(l.map (·.1)).length=l.toArray.size:=by simp
 have E:=AnyE.slices_DeleteFunc dfLA (fun x:SlV=>x.1) (fun x=>by obtain ⟨_,A,n,c,rfl⟩:=x;rfl) (fun x=>decide (slLen x.1=0)) 108 #[] cf75 ⟨.slice none 0 0,_,_,_,rfl⟩ Tryz.zeroValue24 g 0 cap l.toArray w
  (fun W x L=>by
   refine Calls.mono (paths1_sl x W) ?_;rintro e w' ⟨rfl,rfl⟩;exact ⟨rfl,0,rfl⟩)
  (fun n os dk x _=>by
   refine Calls.mono (paths1_sl x _) ?_;rintro e w' ⟨rfl,rfl⟩;exact ⟨rfl,0,rfl⟩)
  (holds_sl D) (by rw [<-d];simp;omega) (by rw [<-d];exact r)
 change Calls Tryz.prog 106 _ _ _ at E;rw [<-d] at E;refine Calls.mono E ?_;rintro e w' ⟨rfl,q,rfl⟩;have G:(l.filter fun x=>!decide (slLen x.1=0)).length<=l.length:=DA _ _;have J:w.ownsRow B 24 1 (.slice (some ⟨g,0,none⟩) (l.map (·.1)).length cap) (l.map (·.1)).length (l.map fun x:SlV=>x.1):=D;refine ⟨_,rfl,?_,Lib.below_putRow (Below.refl _ _) I⟩;have:=Lib.ownsRow_putRow (enc:=fun x:SlV=>x.1) (q:=q) (k:=(l.filter fun x=>!decide (slLen x.1=0)).length) (ys:=(l.filter fun x=>!decide (slLen x.1=0))++List.replicate (l.length - (l.filter fun x=>!decide (slLen x.1=0)).length) ⟨.slice none 0 0,_,_,_,rfl⟩) J (by simp;omega) (by simpa using G);rw [List.take_left' rfl] at this;unfold OwnL;rw [DF];simpa using this
theorem deleteFuncL_nil (A:Option Addr) (c:Nat) (w:World):
  Calls Tryz.prog 106 #[.slice A 0 c,.func (.func 108) #[] #[]] w fun e w'=>e=.returned (.slice A 0 c)/\za w w':=by
 have hI:Hid (∀w,Calls Tryz.prog 134 #[.slice A 0 c,.func (.func 108) #[] #[]] w fun e w'=>e=.returned (.int .i64 (-1))/\za w w'):=fun w=>by
  go_enter Tryz.func134,Tryz.ntmps134
  go_wp2_with fail
  go_loopg [8] 0 (fun gk v wr=>v=.int .i64 0/\gk=0/\Hid (za w wr))
  case atStart=>exact ⟨rfl,rfl,za.refl _⟩
  case round=>
   obtain ⟨rfl,rfl,r⟩:=hrel
   go_wp2_with fail
   go_ret;exact ⟨rfl,r.out⟩
 go_enter Tryz.func106,Tryz.ntmps106
 go_wp2_with fail
 refine (hI.out w).mono ?_;rintro e w2 ⟨rfl,d⟩
 go_wp2_with fail
 go_ret;exact ⟨rfl,d⟩
def PathsPostY (Y:Nat->Prop) (w:World) (m:MZ) (ch:List Int) (e:Ending) (w':World):Prop:=
 ∃v,e=.returned (.tuple #[v,.bool (okC m ch)])/\za w w'/\AT w' (fun b=>Y b\/w.heap.size<=b) v (zl m ch)
theorem filter_pair {w:World} {ok:Nat->Prop}:∀(l:List SlV) (ps:List (List Int)),l.length=ps.length->(∀(i:Nat) x,ps[i]?=some x->∃u,(l.map (·.1))[i]?=some u/\zk w ok u x)->
  ((l.filter fun x=>!decide (slLen x.1=0)).length=(ps.filter fun p=>decide (p.length≠0)).length)/\∀(i:Nat) x,(ps.filter fun p=>decide (p.length≠0))[i]?=some x->∃u,((l.filter fun x=>!decide (slLen x.1=0)).map (·.1))[i]?=some u/\zk w ok u x
 | [],[],_,_=>⟨rfl,fun i x d=>by simp at d⟩
 | a :: l,p :: ps,G,h=>by
  obtain ⟨h1,h2⟩:=filter_pair l ps (by simpa using G) (fun i x d=>by simpa using h (i+1) x (by simpa using d));obtain ⟨u,I,E⟩:=h 0 p rfl;have D:a.1=u:=by simpa using I
  have r:slLen a.1=p.length:=by
   obtain ⟨A,c,e,_⟩:=id E;rw [D,e];rfl
  by_cases hp:p.length=0
  ·rw [List.filter_cons_of_neg (by simp [r,hp]),List.filter_cons_of_neg (by simp [hp])];exact ⟨h1,h2⟩
  ·rw [List.filter_cons_of_pos (by simp [r,hp]),List.filter_cons_of_pos (by simp [hp])];refine ⟨by simp [h1],fun i x d=>?_⟩
   match i,d with
   | 0,d=>
    have:p=x:=by simpa using d
    subst this;exact ⟨u,by simp [D],E⟩
   | i+1,d=>simpa using h2 i x (by simpa using d)
theorem rPathsY_calls {okc Y:Nat->Prop} (w:World) (hm:zL w Y v m) (U:Lens m) (b0:zk w okc vc ch) (d8:ch.length<=20000000000000):
  Calls Tryz.prog 74 #[v,vc] w (PathsPostY Y w m ch):=by
 have c6:=zh hm;obtain ⟨vfr,vup,vts,rfl,-,-,-⟩:=hm;have b6:=zh b0;obtain ⟨A,c,rfl,f0,-⟩:=b0;have HL:=zh U;clear U
 go_enter Tryz.func74,Tryz.ntmps74
 go_wp2_with fail
 generalize b3:w.alloc (.cells #[.int .i64 m.w,.int .i64 m.h,.int .i64 m.l,vfr,vup,vts] 35)=wa;have I:za w wa:=by rw [<-b3];exact (za.refl w).alloc _
 have b8:Hid (w.heap.size<=wa.heap.size):=I.size;clear b3;refine (stateOf_calls wa (c6.out.below I) HL.out (b6.out.below I) d8).mono ?_;rintro e w1 ⟨v1,rfl,b4,h1⟩;have H1:=zh h1;have G:za w w1:=I.trans b4;have a4:Hid (w.heap.size<=w1.heap.size):=G.size;clear h1 b4;obtain ⟨bb,V⟩:=DX (okC m ch);rw [<-V] at H1⊢;have d:=zh V;clear V;cases bb
 ·have r:Hid (PathsPostY Y w m ch (.returned (.tuple #[.slice none 0 0,.bool false])) w1):=⟨_,by rw [<-d.out],G,by unfold zl;rw [<-d.out];exact ⟨[],⟨none,0,rfl,CY _,Aj.nil _ _ _ _⟩,fun i x hx=>by simp at hx⟩⟩
  go_wp2_with fail
  go_ret2
  exact r.out
 ·have E:∃p,v1=.pointer (some ⟨p,0,none⟩)/\StC w1 (fun b=>Y b\/wa.heap.size<=b) p m ch:=by
   rcases H1.out with ⟨h,_⟩ | ⟨_,h⟩
   ·cases h
   ·exact h
  obtain ⟨p,rfl,us,f,u,t,vc',vp,gu,d9,E⟩:=E;obtain ⟨r0,r1,r2,r3,r4,r5,r6,r7,r8⟩:=E.rules;obtain ⟨hg,hc⟩:=okC_true d.out.symm;obtain ⟨vs,⟨Ap,cp,rfl,d4,a1⟩,a0⟩:=E.ps;have a2:vs.length=(Ao m ch).length:=by have:=a1.1;omega
  have e5:(Ao m ch).length<=6:=Da hc.psOk.pl hg.tk
  have a5:Hid (Ay w1 (fun b=>Y b\/wa.heap.size<=b) 1 (.slice Ap (Ao m ch).length cp) vs.length vs):=by
   show Ay _ _ _ _ _ _;rw [a2];exact ⟨Ap,cp,rfl,d4,a1⟩
  have b9:=zh a0
  have a8:∀u∈vs,∃A n c,u=.slice A n c:=fun u hu=>by
   obtain ⟨i,hi,rfl⟩:=DC hu;obtain ⟨u',h1,A',c',e,_⟩:=a0 i _ (CW (by omega));rw [CW hi] at h1;injection h1 with h1;exact ⟨_,_,_,h1.trans e⟩
  have a6:=zh a8;have a7:=zh a2;have c7:Hid (zl m ch=(Ao m ch).filter fun p=>decide (p.length≠0)):=by show _=_;unfold zl;rw [if_pos d.out.symm]
  clear E d9 hg hc H1 a0 a1 a8 a2;have e6:=za.refl w1
  go_wp2_with fail
  refine (cloneL_calls w1 a5.out (fun u hu=>by obtain ⟨A,n,c,rfl⟩:=a6.out u hu;rfl) (by have:=a7.out;omega)).mono ?_;rintro e w2 ⟨v2,rfl,M,D⟩;obtain ⟨l,U⟩:∃l:List SlV,l.map (·.1)=vs:=⟨vs.attachWith _ a6.out,by simp⟩;have b1:l.length=(Ao m ch).length:=by have:=congrArg List.length U;have:=a7.out;simp at *;omega
  have a9:=filter_pair (w:=w1) (ok:=fun b=>Y b\/wa.heap.size<=b) l (Ao m ch) b1 (by rw [U];exact b9.out);have c0:=zh a9;have e8:za w w2:=G.trans M
  have L:∃v3 w3,Calls Tryz.prog 106 #[v2,.func (.func 108) #[] #[]] w2 (fun e w'=>∃v',e=.returned v'/\OwnL w' w1.heap.size v' ((l.filter fun x=>!decide (slLen x.1=0)).map (·.1))/\za w1 w')/\v3=v2/\w3=w2:=by
   refine ⟨v2,w2,?_,rfl,rfl⟩;rcases DG vs.length with h0 | h0
   ·have e0:=Dq h0;subst e0;have d7:l=[]:=Dq (by have:=congrArg List.length U;simpa using this);subst d7;obtain ⟨A',c',rfl,e9,-⟩:=Ay.of_own D;refine (deleteFuncL_nil A' c' w2).mono ?_;rintro e w3 ⟨rfl,hE⟩;exact ⟨_,rfl,OwnL.ext D hE,M.trans hE⟩
   ·have O:=D;unfold OwnL at O;obtain ⟨g,cap,rfl,hg,f1⟩:=World.ownsRow.form O h0;subst U;refine (deleteFuncL_calls D (by omega)).mono ?_;rintro e w3 ⟨v3,rfl,J,c9⟩;exact ⟨_,rfl,J,Below.trans M c9⟩
  obtain ⟨_,_,L,_,_⟩:=L;have b7:=zh L;clear D L M U b1 a9
  go_wp2_with fail
  refine b7.out.mono ?_;rintro e w3 ⟨v3,rfl,J,a3⟩
  have r:Hid (PathsPostY Y w m ch (.returned (.tuple #[v3,.bool true])) w3):=by
   refine ⟨v3,by rw [<-d.out],G.trans a3,?_⟩;rw [c7.out];obtain ⟨h1,h2⟩:=c0.out;have h3:Ay w3 (fun b=>Y b\/w.heap.size<=b) 1 v3 (((l.filter fun x=>!decide (slLen x.1=0)).map (·.1)).length) ((l.filter fun x=>!decide (slLen x.1=0)).map (·.1)):=(Ay.of_own J).weaken fun b hb=>.inr (Da a4.out hb)
   rw [DF,h1] at h3
   exact ⟨_,h3,fun i x hx=>by
    obtain ⟨u,hu,hi⟩:=h2 i x hx;exact ⟨u,hu,(hi.weaken fun b hb=>hb.imp id (fun h=>Da b8.out h)).below a3⟩⟩
  clear J a3
  go_wp2_with fail
  go_ret2
  exact r.out
end
section
open Go.RowKit
attribute [local go_sem ↓] Go.wp_at_zero Go.wp_at_succ
theorem Ar (d:Cc m=0) (h:zG m ch):(zl m ch).length<=m.tasks.length/\m.tasks.length<=6/\ch.length<=300/\∀x∈zl m ch,x≠[]/\x.length<=1000:=by
 have g:=AF.of d;have h1:=h.psOk;have h2:=h.len300 g;unfold zl;rw [if_pos (okC_of d h)];refine ⟨Da (DA _ _) h1.pl,g.tk,h2,fun x r=>⟨?_,?_⟩⟩
 ·have:=(DP.1 r).2;rintro rfl;simp at this
 ·have D:=flat_le (DP.1 r).1;rw [h1.fl] at D;omega
structure PSt (w:World) (ok:Nat->Prop) (m:MZ) (f u ts vc vp:Value) (ch:List Int):Prop where
 maze:zL w ok (.agg #[.int .i64 m.w,.int .i64 m.h,.int .i64 m.l,f,u,ts]) m
 chs:zk w ok vc ch
 ps:AT w ok vp (zl m ch)
def CT (m:MZ) (f u ts vc vp:Value) (t:Int):Value:=.agg #[.int .i64 m.w,.int .i64 m.h,.int .i64 m.l,f,u,ts,vc,vp,.int .i64 t]
theorem PSt.more {vp:Value} (h:PSt w ok m f u ts vc vp ch) (d:za w w'):PSt w' ok m f u ts vc vp ch:=⟨h.maze.below d,h.chs.below d,h.ps.below d⟩
def setL (g:Nat):Nat->List Value->World->World
 | _,[],W=>W
 | k,v :: vs,W=>setL g (k+1) vs (W.setCell ⟨g,k,none⟩ v)
theorem Bp (g:Nat):∀(vs:List Value) (k:Nat) (W:World),Below g W (setL g k vs W)
 | [],_,W=>Below.refl g W
 | v :: vs,k,W=>((Below.refl g W).setCell (p:=⟨g,k,none⟩) (CY _) v).trans (Bp g vs (k+1) _)
theorem Bq (g:Nat) (b:Nat) (d:b≠g):∀(vs:List Value) (k:Nat) (W:World),(setL g k vs W).heap[b]?=W.heap[b]?
 | [],_,W=>rfl
 | v :: vs,k,W=>(Bq g b d vs (k+1) _).trans (Di W ⟨g,k,none⟩ v b d)
theorem setL_blk {g:Nat} {t:TypeId}:∀(vs:List Value) (us ws:List Value) (W:World),us.length=vs.length->ze W g t (ws++us).toArray->ze (setL g ws.length vs W) g t (ws++vs).toArray
 | [],us,ws,W,d,h=>by
  have:us=[]:=List.length_eq_zero_iff.1 d;subst this;exact h
 | v :: vs,us,ws,W,d,h=>by
  match us,d,h with
  | u :: us,d,h=>
   have h1:=h.set (k:=ws.length) v;rw [List.setIfInBounds_toArray,List.set_append_right _ _ (CY _),Nat.sub_self,List.set_cons_zero] at h1;have h2:=setL_blk vs us (ws++[v]) _ (by simpa using d) (by rw [List.append_assoc];exact h1);rw [List.append_assoc,Dh] at h2;exact h2
theorem case_fin9 {P:World->Prop} {g2:Nat} {t:TypeId} {a0 a1 a2 a3 a4 a5 a6 a7 a8 z0 z1 z2 z3 z4 z5 z6 z7 z8:Value} (h:∀WZ,ze WZ g2 t #[a0,a1,a2,a3,a4,a5,a6,a7,a8]->Below g2 W WZ->(∀k,k<W.heap.size->k≠g2->WZ.heap[k]?=W.heap[k]?)->P WZ) (r:ze W g2 t #[z0,z1,z2,z3,z4,z5,z6,z7,z8]):
  P (((((((((W.setCell ⟨g2,0,none⟩ a0).setCell ⟨g2,1,none⟩ a1).setCell ⟨g2,2,none⟩ a2).setCell ⟨g2,3,none⟩ a3).setCell ⟨g2,4,none⟩ a4).setCell ⟨g2,5,none⟩ a5).setCell ⟨g2,6,none⟩ a6).setCell ⟨g2,7,none⟩ a7).setCell ⟨g2,8,none⟩ a8):=
 h (setL g2 0 [a0,a1,a2,a3,a4,a5,a6,a7,a8] W) (setL_blk [a0,a1,a2,a3,a4,a5,a6,a7,a8] [z0,z1,z2,z3,z4,z5,z6,z7,z8] [] W rfl r) (Bp g2 _ 0 W) (fun k _ d=>Bq g2 k d _ 0 W)
theorem of_calls (w:World) (hm:zL w ok (.agg #[.int .i64 m.w,.int .i64 m.h,.int .i64 m.l,f,u,ts]) m) (hl:Lens m) (hc:Cc m=0) (f3:zk w ok vc ch) (hi:zG m ch):
  Calls Tryz.prog 32 #[.agg #[.int .i64 m.w,.int .i64 m.h,.int .i64 m.l,f,u,ts],vc] w fun e w'=>∃vp,e=.returned (CT m f u ts vc vp (zD m ch))/\za w w'/\PSt w' (fun b=>ok b\/w.heap.size<=b) m f u ts vc vp ch:=by
 have b7:=zh hm;have HL:=zh hl;have e8:=zh (Ar hc hi);have b3:=zh f3;obtain ⟨Af,cf,Au,cu,At,ct,e,-,-,f9⟩:=hm.parts;injection e with e;injection e with e;simp only [List.cons.injEq,and_true,true_and] at e;obtain ⟨rfl,rfl,rfl⟩:=e;have h4:=zh f9;obtain ⟨Ac,cc,rfl,-,-⟩:=f3;clear hm hl hc hi f9
 go_enter Tryz.func32,Tryz.ntmps32
 go_wp2_with fail
 obtain ⟨d8,r0,r1,r2,r3,r4,r5⟩:=box6 w (.int .i64 m.w) (.int .i64 m.h) (.int .i64 m.l) (.slice Af m.free.length cf) (.slice Au m.up.length cu) (.slice At m.tasks.length ct);have e5:(w.alloc (.cells #[.int .i64 m.w,.int .i64 m.h,.int .i64 m.l,.slice Af m.free.length cf,.slice Au m.up.length cu,.slice At m.tasks.length ct] 35)).heap.size=w.heap.size+1:=by simp
 generalize w.alloc _=w1 at d8 r0 r1 r2 r3 r4 r5 e5⊢;have r:=ze.new w1 #[.int .i64 0,.int .i64 0,.int .i64 0,.slice none 0 0,.slice none 0 0,.slice none 0 0,.slice none 0 0,.slice none 0 0,.int .i64 0] 70 (g:=w1.heap.size) rfl;have a7:za w1 (w1.alloc (.cells #[.int .i64 0,.int .i64 0,.int .i64 0,.slice none 0 0,.slice none 0 0,.slice none 0 0,.slice none 0 0,.slice none 0 0,.int .i64 0] 70)):=(za.refl w1).alloc _;generalize w1.alloc _=w2 at r a7⊢;rw [e5] at r;have a5:=zh (d8.trans a7);have M:=zh a7;have HZ:=zh r;obtain ⟨gm,e1⟩:=DX w.heap.size;rw [<-e1] at r0 r1 r2 r3 r4 r5 HZ⊢;have U:Hid (gm=w.heap.size):=e1;have r0:=fun W h=>r0 W (M.out.trans h)
 have r1:=fun W h=>r1 W (M.out.trans h)
 have r2:=fun W h=>r2 W (M.out.trans h)
 have r3:=fun W h=>r3 W (M.out.trans h)
 have r4:=fun W h=>r4 W (M.out.trans h)
 have r5:=fun W h=>r5 W (M.out.trans h)
 clear e1 e5 r d8 a7;refine (rPathsY_calls (Y:=fun b=>ok b/\b<w.heap.size) w2 (b7.out.bound.below a5.out) HL.out (b3.out.below a5.out) (by have:=e8.out;omega)).mono ?_;rintro e w3 ⟨vp,rfl,c9,b0⟩;have b0:=b0.weaken (fun b G=>(by have:=U.out;have:=HZ.out;have:=zb this;have:=a5.out.size;exact ⟨G.imp (fun h=>h.1) (fun h=>by omega),by omega⟩:(ok b\/w.heap.size<=b)/\b≠gm+1));have e9:=zh b0;obtain ⟨vps,⟨Ap,cp,rfl,-,f6⟩,f4⟩:=b0;have f0:=zh f6;have g8:=zh f4;have J:=zh (a5.out.trans c9);clear f6 f4
 go_wp2_with fail
 have a6:=ze.new w3 #[.int .i64 m.w,.int .i64 m.h,.int .i64 m.l,.slice Af m.free.length cf,.slice Au m.up.length cu,.slice At m.tasks.length ct,.slice Ac ch.length cc,.slice Ap (zl m ch).length cp,.int .i64 0] 70 (g:=w3.heap.size) rfl;have d9:za w3 (w3.alloc (.cells #[.int .i64 m.w,.int .i64 m.h,.int .i64 m.l,.slice Af m.free.length cf,.slice Au m.up.length cu,.slice At m.tasks.length ct,.slice Ac ch.length cc,.slice Ap (zl m ch).length cp,.int .i64 0] 70)):=(za.refl w3).alloc _;generalize w3.alloc _=w4 at a6 d9⊢;obtain ⟨gs,e2⟩:=DX w3.heap.size;rw [<-e2] at a6⊢;have g9:Hid (gs=w3.heap.size):=e2;have g4:=zh d9;have e7:=zh a6;have b6:=zh c9;obtain ⟨PL,d6⟩:=DX ((zl m ch).length);rw [<-d6] at f0 e7⊢;have O:=zh d6;clear e2 a6 d9 c9 d6;go_loopw [18] (fun _ wr=>∃k:Nat,k<=PL/\Hid (curF m (zl m ch) (PL - k) k=zD m ch)/\Hid (za w3 wr)/\Hid (ze wr gs 70 #[.int .i64 m.w,.int .i64 m.h,.int .i64 m.l,.slice Af m.free.length cf,.slice Au m.up.length cu,.slice At m.tasks.length ct,.slice Ac ch.length cc,.slice Ap PL cp,.int .i64 k])) (fun _ wr=>match wr.cell? ⟨gs,8,none⟩ with | some (.int _ i)=>PL - i.toNat | _=>0)
 case atStart=>exact ⟨0,Do _,by show _=_;rw [O.out];rfl,g4.out,e7.out⟩
 case round=>
  obtain ⟨k,hk,a1,hE,V⟩:=hrel;have c0:=V.out.cell (k:=0) rfl;have c1:=V.out.cell (k:=1) rfl;have c2:=V.out.cell (k:=2) rfl;have c3:=V.out.cell (k:=3) rfl;have c4:=V.out.cell (k:=4) rfl;have c5:=V.out.cell (k:=5) rfl;have c6:=V.out.cell (k:=6) rfl;have c7:=V.out.cell (k:=7) rfl;have c8:=V.out.cell (k:=8) rfl;by_cases a4:k<PL
  ·obtain ⟨j4,j8,-,f5⟩:=e8.out;have a3:k<m.tasks.length:=by have:=O.out;omega
   have a8:k<(zl m ch).length:=by have:=O.out;omega
   obtain ⟨bt,offt,sn,u1,u2,rfl,-,-,-,f2,-,e3⟩:=CC h4.out a3;obtain ⟨bp,offp,up,rfl,-,e0,g0⟩:=eachAt f0.out g8.out a4 a8;obtain ⟨a9,b1⟩:=f5 _ (CZ a8);have h8:=(HL.out.tl _ (CZ a3)).2
   have L:Hid (endB m (zl m ch) k=match ((zl m ch)[k]).getLast? with | none=>false | some x=>decide (x∈(m.tasks[k]).2)):=by
    show _=_;unfold endB;rw [CX,CW a8,CX,CW a3];rfl
   obtain ⟨P,hP⟩:=DX ((zl m ch)[k]);obtain ⟨T,hT⟩:=DX ((m.tasks[k]).2);rw [<-hP] at g0 a9 b1 L;rw [<-hT] at e3 h8 L;clear hP hT f5;obtain ⟨q,x,rfl⟩:∃q x,P=q++[x]:=⟨P.dropLast,P.getLast a9,(List.dropLast_concat_getLast a9).symm⟩
   have b5:Hid (endB m (zl m ch) k=decide (x∈T)):=by
    have:=L.out;rw [List.getLast?_append] at this;exact this
   clear L a9;obtain ⟨Aq,cq,rfl,h6,f7⟩:=g0;obtain ⟨bq,offq,e,-,a2⟩:=Am f7 (k:=q.length) (by simp) (by simp);have a2:w3.cell? ⟨bq,offq+q.length,none⟩=some (.int .i64 x):=by rw [a2];simp
   subst e;obtain ⟨N,hN⟩:=DX ((q++[x]).length);obtain ⟨n,hn⟩:=DX q.length;have f1:N=n+1:=by rw [hN,hn];simp
   rw [<-hN] at e0 b1;rw [<-hn] at a2;clear f7 h6 hN hn;have h3:=zh ((e3.below J.out).below hE.out);obtain ⟨Au2,cu2,rfl,-,-⟩:=e3;have q5:=za.rule (r5 wr (b6.out.trans hE.out));have q8:=za.rule c8;have g5:=zh c8;have qt:=za.rule (hE.out.cell (J.out.cell f2));have qp:=za.rule (hE.out.cell e0);have qx:=za.rule (hE.out.cell a2);have hx:za wr wr:=za.refl wr;have i9:=zh r5;clear r0 r1 r2 r3 r4 r5 c0 c1 c2 c3 c4 c5 c6 c7 f2 e0 a2;have j1:(k:Int)<(PL:Int):=by omega
   have j0:(0:Int)<=(k:Int):=by omega
   have j2:(k:Int)<(m.tasks.length:Int):=by omega
   have j5:(0:Int)<=(n:Int):=by omega
   have j6:(n:Int)<(N:Int):=by omega
   have j7:IntKind.i64.wrap ((N:Int) - 1)=(n:Int):=by rw [Du];omega
   have j3:IntKind.i64.wrap ((k:Int)+1)=(k:Int)+1:=by rw [Du];omega
   have i8:=zh f1;have i7:=zh a3;clear f1 a3 a8
   go_wp2_with fail
   go_quiet ((go_at_call 56;refine (zS x _ (h3.out.below ((za.refl wr).drewN _)) (by omega)).mono ?_;rintro e w9 ⟨rfl,rfl⟩;exact ⟨rfl,⟨_,rfl⟩⟩))
   have D:Hid (ze (wr.drewN nq) gs _ _):=V.out.ext ((za.refl wr).drewN _);have I:Hid (za w3 (wr.drewN nq)):=hE.out.drewN _;have g6:Hid (∀h:za wr (wr.drewN nq),za wr (wr.drewN nq)):=fun h=>h
   generalize wr.drewN nq=WX at D I g6⊢;obtain ⟨d,hd⟩:=DX (decide (x∈T));rw [<-hd] at b5⊢;clear hd;have c8:=D.out.cell (k:=8) rfl;have f8:=D.out.frozen 8
   cases d with
   | true=>
    clear q5 q8 qt qp qx hx
    go_wp2_with fail
    have b8:=D.out.set (k:=8) (.int .i64 ((k:Int)+1));have d4:za w3 (WX.setCell ⟨gs,8,none⟩ (.int .i64 ((k:Int)+1))):=I.out.setCell (p:=⟨gs,8,none⟩) (by rw [g9.out];exact CY _) _;generalize WX.setCell ⟨gs,8,none⟩ (.int .i64 ((k:Int)+1))=w6 at b8 d4⊢;have g7:=zh d4;have e6:=zh b8;clear d4 b8;go_roundw
    case rel=>exact ⟨k+1,by omega,by
     show _=_;have:=a1.out;rw [show PL - k=(PL - (k+1))+1 from by omega,curF,if_pos ⟨by have:=O.out;omega,b5.out⟩] at this;exact this,g7.out,by have:=e6.out;exact this⟩
    case measure=>
     have h1:w6.cell? ⟨gs,8,none⟩=some (.int .i64 ((k:Int)+1)):=e6.out.cell (k:=8) rfl;have h2:wr.cell? ⟨gs,8,none⟩=some (.int .i64 k):=g5.out;simp only [h1,h2];omega
   | false=>
    have b4:Hid (zD m ch=k):=by
     show _=_;have:=a1.out;rw [show PL - k=(PL - (k+1))+1 from by omega,curF,if_neg (by rw [b5.out];simp)] at this;exact this.symm
    clear q5 q8 qt qp qx hx c8 f8;have r:ze WX (gm+1) 70 _:=HZ.out.ext (b6.out.trans I.out);have z0:=r.cell (k:=0) rfl;have z1:=r.cell (k:=1) rfl;have z2:=r.cell (k:=2) rfl;have z3:=r.cell (k:=3) rfl;have z4:=r.cell (k:=4) rfl;have z5:=r.cell (k:=5) rfl;have z6:=r.cell (k:=6) rfl;have z7:=r.cell (k:=7) rfl;have z8:=r.cell (k:=8) rfl;have c0:=D.out.cell (k:=0) rfl;have c1:=D.out.cell (k:=1) rfl;have c2:=D.out.cell (k:=2) rfl;have c3:=D.out.cell (k:=3) rfl;have c4:=D.out.cell (k:=4) rfl;have c5:=D.out.cell (k:=5) rfl;have c6:=D.out.cell (k:=6) rfl;have c7:=D.out.cell (k:=7) rfl;have c8:=D.out.cell (k:=8) rfl;have hfz:∀j,WX.frozen? ⟨gm+1,j,none⟩=false:=fun j=>r.frozen j
    have b2:=zh r;clear r
    go_wp2_with fail
    refine case_fin9 (P:=fun W=>bodyPost Tryz.prog Tryz.f32 _ Exit.ret _ W) (g2:=gm+1) ?_ b2.out;intro WZ E d5 e4;have y0:=E.cell (k:=0) rfl;have y1:=E.cell (k:=1) rfl;have y2:=E.cell (k:=2) rfl;have y3:=E.cell (k:=3) rfl;have y4:=E.cell (k:=4) rfl;have y5:=E.cell (k:=5) rfl;have y6:=E.cell (k:=6) rfl;have y7:=E.cell (k:=7) rfl;have y8:=E.cell (k:=8) rfl;refine DM (v:=CT m (.slice Af m.free.length cf) (.slice Au m.up.length cu) (.slice (some ⟨bt,offt,none⟩) m.tasks.length ct) (.slice Ac ch.length cc) (.slice (some ⟨bp,offp,none⟩) PL cp) k) (by simp [results,Tryz.results32,go_sem,y0,y1,y2,y3,y4,y5,y6,y7,y8,CT]) rfl ⟨_,by rw [b4.out],?_,?_⟩
    ·exact Below.trans (J.out.trans I.out) (d5.mono (by have:=U.out;omega))
    ·have hS:zK (fun b=>(ok b\/w.heap.size<=b)/\b≠gm+1) WX WZ:=fun b G a4=>e4 b a4 G.2
     have a0:∀{b},b<w.heap.size->b≠gm+1:=fun G=>by have:=U.out;omega
     refine ⟨?_,?_,?_⟩
     ·exact ((((b7.out.bound).keep (zK.of_below (J.out.trans I.out))).weaken (fun b G=>⟨.inl G.1,a0 G.2⟩)).keep hS).weaken (fun _ G=>G.1)
     ·exact ((((b3.out.bound).keep (zK.of_below (J.out.trans I.out))).weaken (fun b G=>⟨.inl G.1,a0 G.2⟩)).keep hS).weaken (fun _ G=>G.1)
     ·exact ((O.out ▸ e9.out.below I.out:AT WX (fun b=>(ok b\/w.heap.size<=b)/\b≠gm+1) _ (zl m ch)).keep hS).weaken (fun _ G=>G.1)
  ·have i6:¬ ((k:Int)<(PL:Int)):=by omega
   have b4:Hid (zD m ch=k):=by
    show _=_;have:=a1.out;rw [show PL - k=0 from by omega,curF] at this;exact this.symm
   have q8:=za.rule c8;have hx:za wr wr:=za.refl wr;clear c0 c1 c2 c3 c4 c5 c6 c7 r0 r1 r2 r3 r4 r5
   go_wp2_with fail
   go_quiet (fail)
   have D:Hid (ze (wr.drewN nq) gs _ _):=V.out.ext ((za.refl wr).drewN _);have I:Hid (za w3 (wr.drewN nq)):=hE.out.drewN _;clear q8 hx c8;generalize wr.drewN nq=WX at D I⊢;have r:ze WX (gm+1) 70 _:=HZ.out.ext (b6.out.trans I.out);have z0:=r.cell (k:=0) rfl;have z1:=r.cell (k:=1) rfl;have z2:=r.cell (k:=2) rfl;have z3:=r.cell (k:=3) rfl;have z4:=r.cell (k:=4) rfl;have z5:=r.cell (k:=5) rfl;have z6:=r.cell (k:=6) rfl;have z7:=r.cell (k:=7) rfl;have z8:=r.cell (k:=8) rfl;have c0:=D.out.cell (k:=0) rfl;have c1:=D.out.cell (k:=1) rfl;have c2:=D.out.cell (k:=2) rfl;have c3:=D.out.cell (k:=3) rfl;have c4:=D.out.cell (k:=4) rfl;have c5:=D.out.cell (k:=5) rfl;have c6:=D.out.cell (k:=6) rfl;have c7:=D.out.cell (k:=7) rfl;have c8:=D.out.cell (k:=8) rfl;have hfz:∀j,WX.frozen? ⟨gm+1,j,none⟩=false:=fun j=>r.frozen j
   have b2:=zh r;clear r
   go_wp2_with fail
   refine case_fin9 (P:=fun W=>bodyPost Tryz.prog Tryz.f32 _ Exit.ret _ W) (g2:=gm+1) ?_ b2.out;intro WZ E d5 e4;have y0:=E.cell (k:=0) rfl;have y1:=E.cell (k:=1) rfl;have y2:=E.cell (k:=2) rfl;have y3:=E.cell (k:=3) rfl;have y4:=E.cell (k:=4) rfl;have y5:=E.cell (k:=5) rfl;have y6:=E.cell (k:=6) rfl;have y7:=E.cell (k:=7) rfl;have y8:=E.cell (k:=8) rfl;refine DM (v:=CT m (.slice Af m.free.length cf) (.slice Au m.up.length cu) (.slice At m.tasks.length ct) (.slice Ac ch.length cc) (.slice Ap PL cp) k) (by simp [results,Tryz.results32,go_sem,y0,y1,y2,y3,y4,y5,y6,y7,y8,CT]) rfl ⟨_,by rw [b4.out],?_,?_⟩
   ·exact Below.trans (J.out.trans I.out) (d5.mono (by have:=U.out;omega))
   ·have hS:zK (fun b=>(ok b\/w.heap.size<=b)/\b≠gm+1) WX WZ:=fun b G a4=>e4 b a4 G.2
    have a0:∀{b},b<w.heap.size->b≠gm+1:=fun G=>by have:=U.out;omega
    refine ⟨?_,?_,?_⟩
    ·exact ((((b7.out.bound).keep (zK.of_below (J.out.trans I.out))).weaken (fun b G=>⟨.inl G.1,a0 G.2⟩)).keep hS).weaken (fun _ G=>G.1)
    ·exact ((((b3.out.bound).keep (zK.of_below (J.out.trans I.out))).weaken (fun b G=>⟨.inl G.1,a0 G.2⟩)).keep hS).weaken (fun _ G=>G.1)
    ·exact ((O.out ▸ e9.out.below I.out:AT WX (fun b=>(ok b\/w.heap.size<=b)/\b≠gm+1) _ (zl m ch)).keep hS).weaken (fun _ G=>G.1)
end
end Go.Proofs.YtcnaogdgjkpkmaaGreatDoor
