import Derived.Test.YthbjngbhbbkkgaaGreatHRp
import Derived.Test.YthbjngbhbbkkgaaGreatHRr
set_option linter.unusedVariables false
set_option linter.unusedSimpArgs false
set_option maxRecDepth 100000
set_option maxHeartbeats 16000000
namespace Go.Proofs.YthbjngbhbbkkgaaGreat
variable {n x:Int} {qs:List (List Int)} {a ch l p us:List Int} {m:MZ} {k t:Nat}
section
open Go.RowKit
def Apart (ps:List (List Int)):Prop:=(∀i,(ps.getD i []).Nodup)/\∀i j x,x∈ps.getD i []->x∈ps.getD j []->i=j
theorem BN {ps:List (List Int)}:x∈ps.flatten↔∃i,x∈ps.getD i []:=by
 rw [List.mem_flatten];constructor
 ·rintro ⟨p,hp,o⟩;obtain ⟨i,z,rfl⟩:=Fm hp;exact ⟨i,by rw [EF,EE z];exact o⟩
 ·rintro ⟨i,o⟩;by_cases z:i<ps.length
  ·exact ⟨_,getD_mem z,o⟩
  ·rw [EF,EZ (by omega)] at o;cases o
theorem DC {ps:List (List Int)}:x∈(ps.take t).flatten↔∃i,i<t/\x∈ps.getD i []:=by
 rw [BN];constructor
 ·rintro ⟨i,o⟩;rw [EF,List.getElem?_take] at o
  split at o
  ·rename_i h;exact ⟨i,h,by rw [EF];exact o⟩
  ·cases o
 ·rintro ⟨i,h,o⟩;exact ⟨i,by rw [EF,List.getElem?_take,if_pos h,<-EF];exact o⟩
theorem apart_iff:∀{ps:List (List Int)},ps.flatten.Nodup↔Apart ps
 | []=>by simp [Apart]
 | p :: ps=>by
  rw [List.flatten_cons,List.nodup_append,apart_iff (ps:=ps)];constructor
  ·rintro ⟨h1,⟨h2,h3⟩,B⟩;refine ⟨fun i=>?_,fun i j x o z=>?_⟩
   ·cases i with
    | zero=>simpa using h1
    | succ i=>simpa using h2 i
   ·cases i with
    | zero=>cases j with
     | zero=>rfl
     | succ j=>exact absurd rfl (B x (by simpa using o) x (BN.2 ⟨j,by simpa using z⟩))
    | succ i=>cases j with
     | zero=>exact absurd rfl (B x (by simpa using z) x (BN.2 ⟨i,by simpa using o⟩))
     | succ j=>rw [h3 i j x (by simpa using o) (by simpa using z)]
  ·rintro ⟨h1,h2⟩;refine ⟨by simpa using h1 0,⟨fun i=>by simpa using h1 (i+1),fun i j x o z=>?_⟩,fun a D b E e=>?_⟩
   ·have:=h2 (i+1) (j+1) x (by simpa using o) (by simpa using z);omega
   ·subst e;obtain ⟨i,o⟩:=BN.1 E;have:=h2 0 (i+1) a (by simpa using D) (by simpa using o);omega
theorem DH {α:Type} {l:List α} {i j:Nat} {a d:α}:(l.set i a).getD j d=if i=j/\j<l.length then a else l.getD j d:=by
 rw [EF,EF,List.getElem?_set];by_cases h:i=j
 ·subst h;by_cases h2:i<l.length
  ·simp [h2]
  ·simp [h2]
 ·simp [h]
theorem Apart.set {ps:List (List Int)} {k:Nat} {p:List Int} (h:Apart ps) (hp:p.Nodup) (E:∀x∈p,∀i,i≠k->x∉ps.getD i []):Apart (ps.set k p):=by
 refine ⟨fun i=>?_,fun i j x z o=>?_⟩
 ·rw [DH]
  split
  ·exact hp
  ·exact h.1 i
 ·rw [DH] at z o
  split at z
  ·split at o
   ·omega
   ·rename_i h1 h2
    by_cases D:j=k
    ·subst D;omega
    ·exact absurd o (E x z j D)
  ·split at o
   ·rename_i h1 h2
    by_cases B:i=k
    ·subst B;omega
    ·exact absurd z (E x o i B)
   ·exact h.2 i j x z o
theorem Apart.map {ps:List (List Int)} {l:List Nat} (h:Apart ps) (E:l.Nodup):Apart (l.map (ps.getD · [])):=by
 have key:∀i,(l.map (ps.getD · [])).getD i []=match l[i]? with | some k=>ps.getD k [] | none=>[]:=fun i=>by
  rw [EF,Fq]
  cases l[i]? <;> rfl
 refine ⟨fun i=>?_,fun i j x B D=>?_⟩
 ·rw [key]
  cases l[i]? with
  | none=>exact List.nodup_nil
  | some k=>exact h.1 k
 ·rw [key] at B D
  cases o:l[i]? with
  | none=>rw [o] at B;cases B
  | some k=>cases z:l[j]? with
   | none=>rw [z] at D;cases D
   | some k'=>
    rw [o] at B;rw [z] at D;have e:=h.2 k k' x B D;subst e;obtain ⟨h1,e1⟩:=FD.1 o;obtain ⟨h3,e3⟩:=FD.1 z;rcases Nat.lt_trichotomy i j with h4 | h4 | h4
    ·exact absurd (e1.trans e3.symm) (List.pairwise_iff_getElem.1 (List.nodup_iff_pairwise_ne.1 E) i j h1 h3 h4)
    ·exact h4
    ·exact absurd (e3.trans e1.symm) (List.pairwise_iff_getElem.1 (List.nodup_iff_pairwise_ne.1 E) j i h3 h1 h4)
structure PathT (m:MZ) (t:Nat) (p:List Int):Prop where
 ne:p≠[]
 hd:p.getD 0 0∈(m.tasks.getD t ([],[])).1
 lt:p.getD (p.length - 1) 0∈(m.tasks.getD t ([],[])).2
 rg:∀x∈p,0<=x/\x<m.n
 fr:∀x∈p,zi m t x=true
 ch:∀(i:Nat) x y,p[i]?=some x->p[i+1]?=some y->y∈zl m x
theorem pathB_iff {pre:List Int}:pathB m t p pre=true↔PathT m t p/\p.Nodup/\∀x∈p,x∉pre:=by
 have gk:∀{k:Nat} (o:k<p.length),p.getD k 0=p[k]:=fun o=>by rw [EF,EE o,Fl]
 constructor
 ·intro h;unfold pathB at h;simp only [ES,Bool.not_eq_true',Fd,EQ,FN,FI] at h;obtain ⟨h0,h1,h2,h3⟩:=h
  have B:∀k (o:k<p.length),(0<=p[k]/\p[k]<m.n)/\p[k]∉pre++p.take k/\zi m t p[k]=true/\(k=0\/p[k]∈zl m (p.getD (k - 1) 0)):=fun k o=>by
   have:=h3 k o;unfold CA at this;rw [gk o] at this;simp only [ES,FK,Bool.not_eq_true',Fd,EQ] at this;exact ⟨⟨this.1,this.2.1⟩,this.2.2.1,this.2.2.2.1,this.2.2.2.2⟩
  refine ⟨⟨h0,h1,h2,fun x z=>?_,fun x z=>?_,fun i x y z M=>?_⟩,?_,fun x z hp=>?_⟩
  ·obtain ⟨k,o,rfl⟩:=Fm z;exact (B k o).1
  ·obtain ⟨k,o,rfl⟩:=Fm z;exact (B k o).2.2.1
  ·obtain ⟨D,rfl⟩:=FD.1 z;obtain ⟨G,rfl⟩:=FD.1 M;rcases (B _ G).2.2.2 with h5 | h5
   ·omega
   ·rw [Nat.add_sub_cancel,gk D] at h5;exact h5
  ·rw [List.nodup_iff_pairwise_ne,List.pairwise_iff_getElem];intro i j D G J e;refine (B j G).2.1 (List.mem_append_right _ ?_);rw [<-e];exact List.mem_iff_getElem.2 ⟨i,by rw [FA];omega,by rw [List.getElem_take]⟩
  ·obtain ⟨k,o,rfl⟩:=Fm z;exact (B k o).2.1 (List.mem_append_left _ hp)
 ·rintro ⟨h,L,hp⟩;refine pathB_ok h.ne h.hd h.lt fun k o=>?_
  have hm:=EH o;have I:=h.rg _ hm;unfold CA;rw [gk o,EJ I.1,EJ I.2,h.fr _ hm]
  have h1:p[k]∉pre++p.take k:=fun hc=>by
   rcases Fx.1 hc with hc | hc
   ·exact hp _ hm hc
   ·obtain ⟨i,D,e⟩:=Fm hc;rw [List.getElem_take] at e;have E:i<k:=by rw [FA] at D;omega
    exact List.pairwise_iff_getElem.1 (List.nodup_iff_pairwise_ne.1 L) i k (by omega) o E e
  rw [EK h1];rcases Fs k with rfl | h0
  ·rfl
  ·have h3:=h.ch (k - 1) _ _ (EE (by omega)) (by rw [show k - 1+1=k by omega];exact EE o);rw [gk (show k - 1<p.length by omega),EJ h3];simp
theorem DZ {ps:List (List Int)}:AS m ps=true↔AO m=0/\ps.length=m.tasks.length/\(∀t,t<ps.length->PathT m t (ps.getD t []))/\Apart ps:=by
 constructor
 ·intro h;unfold AS at h;simp only [ES,EQ,FN,FI,pathB_iff] at h;obtain ⟨h0,h1,h2⟩:=h;refine ⟨h0,h1,fun t D=>(h2 t D).1,fun i=>?_,fun i j x o B=>?_⟩
  ·by_cases o:i<ps.length
   ·exact (h2 i o).2.1
   ·rw [EF,EZ (by omega)];exact List.nodup_nil
  ·have lt:∀{i:Nat},x∈ps.getD i []->i<ps.length:=fun {i} z=>by
    by_cases o:i<ps.length
    ·exact o
    ·rw [EF,EZ (by omega)] at z;cases z
   rcases Nat.lt_trichotomy i j with h4 | h4 | h4
   ·exact absurd (DC.2 ⟨i,h4,o⟩) ((h2 j (lt B)).2.2 x B)
   ·exact h4
   ·exact absurd (DC.2 ⟨j,h4,B⟩) ((h2 i (lt o)).2.2 x o)
 ·rintro ⟨h0,h1,h2,h3⟩;refine rightB_ok h0 h1 fun t D=>pathB_iff.2 ⟨h2 t D,h3.1 t,fun x z hp=>?_⟩
  obtain ⟨i,o,E⟩:=DC.1 hp;have:=h3.2 i t x E z;omega
theorem PathT.congr {m':MZ} {t':Nat} (h:PathT m t p) (h1:m'.w=m.w) (h2:m'.h=m.h) (h3:m'.l=m.l) (B:m'.up=m.up) (z:m'.tasks.getD t' ([],[])=m.tasks.getD t ([],[])) (D:m'.free.getD t' []=m.free.getD t []):PathT m' t' p:=by
 have I:m'.n=m.n:=by unfold MZ.n;rw [h1,h2,h3]
 have o:∀x,zl m' x=zl m x:=fun x=>by unfold zl;rw [h1,h2,h3,B]
 exact ⟨h.ne,by rw [z];exact h.hd,by rw [z];exact h.lt,by rw [I];exact h.rg,fun x o=>by unfold zi;rw [D];exact h.fr x o,fun i x y E G=>by rw [o];exact h.ch i x y E G⟩
theorem good_part (g:zC m) {l:List Nat} (E:l.length<=6) (B:∀k∈l,k<m.tasks.length):zC ⟨m.w,m.h,m.l,l.map (m.free.getD · []),m.up,l.map (m.tasks.getD · ([],[]))⟩:=by
 have d:=g.dim;refine ⟨⟨d.w1,d.w2,d.h1,d.h2,d.l1,d.l2,d.n1,d.up⟩,by simp,fun f D=>?_,by simpa using E,fun t z x G=>?_⟩
 ·obtain ⟨k,o,rfl⟩:=FH.1 D;have:=B k o;have h2:=g.fl;exact g.fn _ (getD_mem (by omega))
 ·obtain ⟨k,o,rfl⟩:=FH.1 z;have:=B k o;refine g.tn _ ?_ x G;rw [EF,EE this];exact EH this
theorem ownM_good (g:zC m) (o:k<m.tasks.length):zC (ownM m k):=good_part (l:=[k]) g (by simp) (by simpa using o)
theorem keepL_mem {ps:List (List Int)}:k∈keepL ps t↔k<ps.length/\BG ps t k=true:=by
 unfold keepL;rw [FG,FI]
theorem keepL_len (ps:List (List Int)) (t:Nat):(keepL ps t).length<=ps.length:=EI (Fi _ _) (by simp)
theorem subM_good (g:zC m) {ps:List (List Int)} (hp:ps.length=m.tasks.length) (t:Nat):zC (Bx m ps t):=
 good_part g (by have:=keepL_len ps t;have:=g.tk;omega) (fun k o=>by have:=(keepL_mem.1 o).1;omega)
theorem AN {ps:List (List Int)}:By m ps=true↔AO m=0/\ps.length=m.tasks.length/\(∀k,k<ps.length->ps.getD k []≠[]->PathT m k (ps.getD k []))/\Apart ps:=by
 unfold By;simp only [ES,EQ,FN,FI,apart_iff];constructor
 ·rintro ⟨h0,h1,h2,h3⟩;refine ⟨h0,h1,fun k z o=>?_,h3⟩;have:=h2 k z;unfold laidK at this;rw [EK o,Bool.false_or,DZ] at this;exact (this.2.2.1 0 (by simp)).congr rfl rfl rfl rfl rfl rfl
 ·rintro ⟨h0,h1,h2,h3⟩;refine ⟨h0,h1,fun k z=>?_,h3⟩;unfold laidK;by_cases o:ps.getD k []=[]
  ·rw [EJ o,Bool.true_or]
  ·rw [EK o,Bool.false_or,DZ];refine ⟨Dq (ownM_good (zC.of h0) (by omega)),by simp [ownM],fun t E=>?_,fun i=>?_,fun i j x B D=>?_⟩
   ·have:t=0:=by simpa using E
    subst this;exact (h2 k z o).congr rfl rfl rfl rfl rfl rfl
   ·cases i with
    | zero=>simpa using h3.1 k
    | succ i=>simp
   ·cases i with
    | zero=>cases j with
     | zero=>rfl
     | succ j=>simp at D
    | succ i=>simp at B
structure PathR (m:MZ) (t:Nat) (p:List Int):Prop where
 hd:∀x,p.head?=some x->x∈(m.tasks.getD t ([],[])).1
 fr:∀x∈p,zi m t x=true
 nb:∀k x y,p[k]?=some x->p[k+1]?=some y->y∈zl m x
def FinP (m:MZ) (t:Nat) (p:List Int):Prop:=∃x,p.getLast?=some x/\x∈(m.tasks.getD t ([],[])).2
theorem PathR.nil (m:MZ) (t:Nat):PathR m t []:=⟨(fun x h=>by cases h),(fun x h=>by cases h),(fun k x y h=>by simp at h)⟩
theorem PathR.snoc {m:MZ} {t:Nat} {p:List Int} {n:Int} (h:PathR m t p) (B:zi m t n=true) (h0:p=[]->n∈(m.tasks.getD t ([],[])).1) (h1:∀x,p.getLast?=some x->n∈zl m x):PathR m t (p++[n]):=by
 refine ⟨fun x hx=>?_,fun x hx=>?_,fun k x y hx o=>?_⟩
 ·cases p with
  | nil=>
   have:n=x:=by simpa using hx
   subst this;exact h0 rfl
  | cons a p=>exact h.hd x (by simpa using hx)
 ·rcases Fx.1 hx with hx | hx
  ·exact h.fr x hx
  ·rw [Fo] at hx;subst hx;exact B
 ·rcases Fc (k+1) p.length with hk | hk
  ·rw [EL (by omega)] at hx;rw [EL hk] at o;exact h.nb k x y hx o
  ·have z:k+1<(p++[n]).length:=by
    rcases Fc (k+1) (p++[n]).length with h2 | h2
    ·exact h2
    ·rw [EZ h2] at o;cases o
   have D:k+1=p.length:=by simp at z;omega
   rw [EM (by omega),show k+1 - p.length=0 from by omega] at o;have:n=y:=by simpa using o
   subst this;rw [EL (by omega)] at hx;refine h1 x ?_;rw [List.getLast?_eq_getElem?,show p.length - 1=k from by omega];exact hx
structure PsR (m:MZ) (ps:List (List Int)):Prop where
 one:∀t p,ps[t]?=some p->PathR m t p
 fin:∀t p,ps[t]?=some p->t+1<ps.length->FinP m t p
theorem cand_step {ps:List (List Int)} (h:n∈Ct m ps us):zi m (ps.length - 1) n=true/\((ps.getD (ps.length - 1) [])=[]->n∈(m.tasks.getD (ps.length - 1) ([],[])).1)/\(∀x,(ps.getD (ps.length - 1) []).getLast?=some x->n∈zl m x):=by
 unfold Ct at h
 split at h
 ·cases h
 ·split at h
  ·rename_i o
   obtain ⟨h1,h2⟩:=FG.1 h;simp only [ES] at h2;exact ⟨h2.1,fun _=>mem_sortL.1 (Em h1),fun x B=>by rw [o] at B;cases B⟩
  ·rename_i x o
   obtain ⟨h1,h2⟩:=FG.1 h;unfold zN at h2;simp only [ES] at h2;refine ⟨h2.1.1.1,(fun h0=>by rw [h0] at o;cases o),fun y z=>?_⟩;rw [o] at z;injection z with z;subst z;exact h1
theorem PsR.add {ps:List (List Int)} (h:PsR m ps) (hp:0<ps.length) (G:n∈Ct m ps us):PsR m (Cm ps n):=by
 obtain ⟨h1,h2,h3⟩:=cand_step G;obtain ⟨qs,p,rfl,he⟩:=addN_eq hp n;rw [he];have E:(qs++[p]).length - 1=qs.length:=by simp
 have D:(qs++[p]).getD qs.length []=p:=by simp
 rw [E] at h1 h2 h3;rw [D] at h2 h3;refine ⟨fun t q z=>?_,fun t q z I=>?_⟩
 ·rcases Fc t qs.length with o | hge
  ·rw [EL o] at z;exact h.one t q (by rw [EL o];exact z)
  ·have B:t=qs.length:=by
    rcases Fc t (qs++[p++[n]]).length with h4 | h4
    ·simp at h4;omega
    ·rw [EZ h4] at z;cases z
   subst B;rw [EM (EG _),Nat.sub_self] at z;have:p++[n]=q:=by simpa using z
   subst this;exact (h.one qs.length p (by simp)).snoc h1 h2 h3
 ·have o:t<qs.length:=by simp at I;omega
  rw [EL o] at z;exact h.fin t q (by rw [EL o];exact z) (by simp;omega)
theorem PsR.with {m:MZ} {ps:List (List Int)} {us:List Int} {n:Int} (h:PsR m ps) (hp:0<ps.length) (I:n∈Ct m ps us):PsR m (BQ m ps n):=by
 have h1:=h.add hp I;unfold BQ
 split
 ·rename_i G
  have z:(Cm ps n).length=ps.length:=Dl
  have hF:∀t p,(Cm ps n)[t]?=some p->t+1=ps.length->FinP m t p:=fun t p o he=>by
   have h2:=G.1;unfold finB at h2;rw [z,show ps.length - 1=t from by omega,EF,o] at h2;simp only [Fl] at h2
   split at h2
   ·cases h2
   ·rename_i x J
    exact ⟨x,J,zaa h2⟩
  refine ⟨fun t p o=>?_,fun t p o B=>?_⟩
  ·rcases Fc t (Cm ps n).length with h2 | h2
   ·rw [EL h2] at o;exact h1.one t p o
   ·rw [EM h2] at o
    have D:p=[]:=by
     cases E:t - (Cm ps n).length with
     | zero=>rw [E] at o;simpa using o.symm
     | succ j=>rw [E] at o;simp at o
    subst D;exact PathR.nil m t
  ·have h2:t<(Cm ps n).length:=by simp at B;omega
   rw [EL h2] at o;rcases Fc (t+1) (Cm ps n).length with h3 | h3
   ·exact h1.fin t p o h3
   ·exact hF t p o (by omega)
 ·exact h1
theorem zx.psR (h:zx m ch):PsR m (zP m ch):=by
 induction h with
 | nil=>
  rw [psOf_nil];unfold ps0
  split
  ·exact ⟨fun t p h=>by simp at h,fun t p h=>by simp at h⟩
  ·refine ⟨fun t p h=>?_,fun t p h z=>by simp at z⟩
   match t,h with
   | 0,h=>
    have:p=[]:=by simpa using h.symm
    subst this;exact PathR.nil m 0
 | @snoc ch n h o ih=>
  rw [DM];exact ih.with (h.psOk.pn (Cp (Cb o))) o
theorem zx.all (h:zx m ch) (z:zX m ch=true):(zP m ch).length=m.tasks.length/\(∀t p,(zP m ch)[t]?=some p->PathR m t p/\FinP m t p):=by
 have B:=h.psR;have D:=h.psOk;unfold zX cmpB at z;rw [FK,EQ,ES,EQ] at z;rcases z with h0 | ⟨h0,h1⟩
 ·have:=D.pl;refine ⟨by omega,fun t p o=>?_⟩;rw [EZ (by omega)] at o;cases o
 ·refine ⟨h0,fun t p o=>⟨B.one t p o,?_⟩⟩
  have E:t<(zP m ch).length:=by
   rcases Fc t (zP m ch).length with h2 | h2
   ·exact h2
   ·rw [EZ h2] at o;cases o
  rcases Fc (t+1) (zP m ch).length with h2 | h2
  ·exact B.fin t p o h2
  ·unfold finB at h1;rw [show (zP m ch).length - 1=t from by omega,EF,o] at h1;simp only [Fl] at h1
   split at h1
   ·cases h1
   ·rename_i x G
    exact ⟨x,G,zaa h1⟩
theorem right_ch (g:zC m) (h:zx m ch) (I:zX m ch=true):AS m (zP m ch)=true:=by
 obtain ⟨h1,h2⟩:=h.all I;have M:=h.range g;have B:=h.psOk.fl;have J:∀t x,x∈(zP m ch).getD t []->x∈ch:=fun t x z=>by rw [<-B];exact BN.2 ⟨t,z⟩
 refine DZ.2 ⟨Dq g,h1,fun t O=>?_,apart_iff.1 (by rw [B];exact M.2)⟩;have e:(zP m ch).getD t []=(zP m ch)[t]:=zgd O
 obtain ⟨G,x,z,L⟩:=h2 t _ (EE O);have o:=J t;rw [e] at o⊢;generalize (zP m ch)[t]=p at G z o;have D:p≠[]:=fun e=>by subst e;cases z
 have E:0<p.length:=List.length_pos_iff.2 D;refine ⟨D,G.hd _ ?_,?_,fun y Q=>M.1 y (o y Q),G.fr,G.nb⟩
 ·rw [List.head?_eq_getElem?,EF,EE E];rfl
 ·rw [List.getLast?_eq_getElem?,EE (by omega)] at z;have e2:p.getD (p.length - 1) 0=p[p.length - 1]:=by rw [EF,EE (by omega),Fl]
  injection z with z;rw [e2,z];exact L
theorem combos_sub:∀(k:Nat) (l s:List Int),s∈zI k l->s.Sublist l
 | 0,l,s,h=>by
  have:s=[]:=by simpa [zI] using h
  subst this;exact List.nil_sublist l
 | k+1,[],s,h=>by simp [zI] at h
 | k+1,x :: l,s,h=>by
  unfold zI at h;rcases Fx.1 h with h | h
  ·obtain ⟨s',o,rfl⟩:=FH.1 h;exact (combos_sub k l s' o).cons_cons x
  ·exact (combos_sub (k+1) l s h).cons x
theorem subsP_sub {s:List Int} (h:s∈AV l):s.Sublist l:=by
 unfold AV at h;obtain ⟨k,-,h⟩:=List.mem_flatMap.1 h;exact combos_sub k l s h
theorem mem_laidL {ps:List (List Int)}:x∈BX ps↔∃k:Nat,k<ps.length/\x=(k:Int)/\ps.getD k []≠[]:=by
 unfold BX;rw [FH];constructor
 ·rintro ⟨k,o,rfl⟩;rw [FG,FI] at o;exact ⟨k,o.1,rfl,zaa o.2⟩
 ·rintro ⟨k,o,rfl,z⟩;exact ⟨k,FG.2 ⟨FI.2 o,EJ z⟩,rfl⟩
theorem clearP_len:∀(s:List Int) (ps:List (List Int)),(Cn ps s).length=ps.length
 | [],ps=>rfl
 | x :: s,ps=>by
  have o:=clearP_len s (ps.set x.toNat []);unfold Cn at o⊢;rw [List.foldl_cons,o,List.length_set]
theorem PathI.pathT {fixed:List (List Int)} (h:PathI m t fixed p):PathT m t p:=⟨h.ne,h.hd,h.lt,h.rg,fun x o=>(h.fr x o).1,h.ch⟩
theorem keepB_iff {ps:List (List Int)}:BG ps t k=true↔k=t\/ps.getD k []≠[]:=by
 unfold BG;rw [FK,EQ,EQ]
theorem okC_of (o:AO m=0) (h:zx m ch):EA m ch=true:=by
 unfold EA;rw [EJ o,Bn.2 h];rfl
theorem curF_eq {m:MZ} {pp:List (List Int)} {c:Nat}:∀(f t:Nat),t<=c->c<=t+f->(∀j,t<=j->j<c->j<pp.length/\endB m pp j=true)->¬ (c<pp.length/\endB m pp c=true)->curF m pp f t=c
 | 0,t,h0,h1,_,_=>by unfold curF;omega
 | f+1,t,h0,h1,h2,h3=>by
  unfold curF;by_cases h:t=c
  ·subst h;rw [if_neg h3]
  ·rw [if_pos (h2 t (EG _) (by omega))];exact curF_eq f (t+1) (by omega) (by omega) (fun j z o=>h2 j (by omega) o) h3
theorem fin_last (h:zx m ch) (o:(zP m ch).length<m.tasks.length):finB m (zP m ch)=false:=by
 have z:∀l:List (List Int),finB m (l++[[]])=false:=fun l=>by
  unfold finB
  have:(l++[([]:List Int)]).getD ((l++[([]:List Int)]).length - 1) []=[]:=by
   rw [EO,Ff,Nat.add_sub_cancel,EF,EM (EG _)];simp
  rw [this];rfl
 cases h with
 | nil=>
  rw [psOf_nil] at o⊢;unfold ps0 at o⊢
  split
  ·rename_i h0;omega
  ·exact z []
 | @snoc ch n h D=>
  rw [DM] at o⊢;unfold BQ at o⊢
  split
  ·exact z _
  ·rename_i h0
   rw [if_neg h0,Dl] at o
   cases B:finB m (Cm (zP m ch) n) with
   | false=>rfl
   | true=>exact absurd ⟨B,o⟩ h0
structure Cur (m:MZ) (ch:List Int) (qs:List (List Int)) (a:List Int):Prop where
 ps:zP m ch=qs++[a]
 lt:qs.length<m.tasks.length
 cur:zR m ch=qs.length
 pp:zq m ch=if a=[] then qs else qs++[a]
theorem ne_of_fin (h:FinP m t p):p≠[]:=by
 obtain ⟨x,o,-⟩:=h;intro e;subst e;cases o
theorem endB_fin {pp:List (List Int)} (hp:pp[t]?=some p) (h:FinP m t p):endB m pp t=true:=by
 obtain ⟨x,o,h2⟩:=h;unfold endB;rw [EF,hp,Fl,o];exact EJ h2
theorem filter_ne {l:List (List Int)} (h:∀q∈l,q≠[]):l.filter (fun p=>decide (p.length≠0))=l:=
 List.filter_eq_self.2 fun q o=>EJ (fun e=>h q o (List.length_eq_zero_iff.1 e))
theorem cur_of (hc:AO m=0) (h:zx m ch):(zX m ch=true/\zR m ch=m.tasks.length)\/(zX m ch=false/\∃qs a,Cur m ch qs a):=by
 have g:=zC.of hc;have hO:=h.psOk;have hR:=h.psR;have Q:zq m ch=(zP m ch).filter (fun p=>decide (p.length≠0)):=by unfold zq;rw [if_pos (okC_of hc h)]
 cases B:zX m ch with
 | true=>
  left
  obtain ⟨h1,h2⟩:=h.all B
  have L:zq m ch=zP m ch:=by
   rw [Q];refine filter_ne fun q hq=>?_
   obtain ⟨i,V,rfl⟩:=Fm hq;exact ne_of_fin (h2 i _ (EE V)).2
  refine ⟨rfl,?_⟩;unfold zR;rw [L];refine curF_eq _ _ (EU _) (by omega) (fun j _ o=>?_) (fun hx=>by omega);have I:j<(zP m ch).length:=by omega
  exact ⟨I,endB_fin (EE I) (h2 j _ (EE I)).2⟩
 | false=>
  right
  refine ⟨rfl,?_⟩;have ht:=Cp (ps:=zP m ch) B;have G:=hO.pn ht;rcases List.eq_nil_or_concat (zP m ch) with he | ⟨qs,a,he⟩
  ·rw [he] at G;cases G
  ·rw [List.concat_eq_append] at he;have E:(zP m ch).length=qs.length+1:=by rw [he];simp
   have D:∀j (o:j<qs.length),FinP m j qs[j]:=fun j o=>hR.fin j _ (by rw [he,EL o,EE o]) (by omega)
   have a1:∀q∈qs,q≠[]:=fun q hq=>by
    obtain ⟨i,V,rfl⟩:=Fm hq;exact ne_of_fin (D i V)
   have z:zq m ch=if a=[] then qs else qs++[a]:=by
    rw [Q,he,Fv,filter_ne a1];by_cases J:a=[]
    ·subst J;simp
    ·rw [if_neg J,filter_ne (l:=[a]) (by simpa using J)]
   have a7:=hO.pl;refine ⟨qs,a,he,by omega,?_,z⟩
   have o:∀j (o:j<qs.length),(zq m ch)[j]?=some qs[j]:=fun j o=>by
    rw [z]
    split
    ·exact EE o
    ·rw [EL o,EE o]
   unfold zR;refine curF_eq _ _ (EU _) ?_ (fun j _ O=>?_) ?_
   ·rw [z];split <;> simp
   ·have h3:=o j O;obtain ⟨T,-⟩:=FD.1 h3;exact ⟨T,endB_fin h3 (D j O)⟩
   ·rintro ⟨T,U⟩;have J:a≠[]:=fun e=>by rw [z,if_pos e] at T;omega
    have h6:(zq m ch).getD qs.length []=a:=by
     rw [z,if_neg J,EF,EM (EG _)];simp
    unfold endB at U;rw [h6] at U
    have M:finB m (zP m ch)=true:=by
     unfold finB;rw [E,Nat.add_sub_cancel]
     have:(zP m ch).getD qs.length []=a:=by
      rw [he,EF,EM (EG _)];simp
     rw [this];exact U
    unfold zX cmpB at B;rw [M,Bool.and_true,Bool.or_eq_false_iff,Fd,Fd] at B;have h7:qs.length+1<m.tasks.length:=by omega
    exact absurd M (by rw [fin_last h (by rw [E];exact h7)];simp)
theorem headP_eq (h:Cur m ch qs a) (D:qs.length<=t):AE m ch t=BE m (zP m ch) ch t:=by
 have z:∀n:Int,(!(!zi m t n || decide (n∈ch)))=(zi m t n && !decide (n∈ch)):=fun n=>by cases zi m t n <;> simp
 unfold AE BE;simp only [z];rw [h.pp,h.ps];by_cases o:a=[]
 ·subst o;rw [if_pos rfl,if_neg (by omega)];by_cases h1:t+1=(qs++[([]:List Int)]).length
  ·have e:t=qs.length:=by simpa using h1
   subst e;rw [if_pos h1,EF (l:=qs++[[]]),EM (EG _)];simp
  ·rw [if_neg h1]
 ·rw [if_neg o];by_cases h1:t=qs.length
  ·subst h1;have e:(qs++[a]).getD qs.length []=a:=by rw [EF,EM (EG _)];simp
   rw [if_pos (by simp),if_pos (by simp),e]
   cases B:a.getLast? with
   | none=>exact absurd (List.getLast?_eq_none_iff.1 B) o
   | some x=>rfl
  ·rw [if_neg (by simp;omega),if_neg (by simp;omega)]
theorem headP_range (D:AO m=0) (z:zx m ch) (h:Cur m ch qs a) (B:t<m.tasks.length):∀x∈AE m ch t,0<=x/\x<m.n:=by
 have g:=zC.of D;intro x o;unfold AE at o
 split at o
 ·rw [Option.mem_toList] at o;have h1:x∈(zq m ch).flatten:=BN.2 ⟨t,List.mem_of_getLast? o⟩;refine (z.range g).1 x ?_;rw [<-z.psOk.fl,h.ps];rw [h.pp] at h1
  split at h1
  ·rw [List.flatten_append];exact List.mem_append_left _ h1
  ·exact h1
 ·rw [FG,EF,EE B] at o;exact g.tn _ (EH B) x (.inl o.1)
theorem sideP_eq (o:AO m=0) (z:t<m.tasks.length):Cw m ch t=Cg m t (AE m ch t) ch:=by
 unfold Cw reachO;rw [if_pos ⟨o,by omega,by omega⟩,Fy]
inductive All2 (P:Int->PT->Prop):List Int->List PT->Prop
 | nil:All2 P [] []
 | cons {n:Int} {p:PT} {l:List Int} {ps:List PT}:P n p->All2 P l ps->All2 P (n :: l) (p :: ps)
theorem kidsR_ok {f:Int->Nat->Int×PT×Nat} {P:Int->PT->Prop}:∀(l:List Int) (k:Nat) (acc:List PT),(∀n∈l,∀k,k<=3000->(f n k).1=0->P n (f n k).2.1/\(f n k).2.2=k+(f n k).2.1.size/\(f n k).2.2<=3000)->k<=3000->(zZ f l k acc).1=0->
  ∃ps,(zZ f l k acc).2.1=acc++ps/\All2 P l ps/\(zZ f l k acc).2.2=k+PT.sizeL ps/\(zZ f l k acc).2.2<=3000
 | [],k,acc,_,o,_=>⟨[],by simp [zZ],.nil,by simp [zZ,PT.sizeL],o⟩
 | n :: l,k,acc,z,o,h=>by
  unfold zZ at h⊢;by_cases h0:(f n k).1=0
  ·rw [if_pos h0] at h⊢;obtain ⟨h1,h2,h3⟩:=z n (Ft ..) k o h0;obtain ⟨ps,q1,q2,q3,q4⟩:=kidsR_ok l _ (acc++[(f n k).2.1]) (fun n' B=>z n' (Fa _ B)) h3 h;exact ⟨(f n k).2.1 :: ps,by rw [q1];simp,.cons h1 q2,by rw [q3,h2];simp only [PT.sizeL];omega,q4⟩
  ·rw [if_neg h0] at h;exact absurd h h0
theorem kidsR_err {f:Int->Nat->Int×PT×Nat}:∀(l:List Int) (k:Nat) (acc:List PT),(zZ f l k acc).1≠0->∃n∈l,∃k',(f n k').1=(zZ f l k acc).1
 | [],k,acc,h=>absurd rfl h
 | n :: l,k,acc,h=>by
  unfold zZ at h⊢;by_cases h0:(f n k).1=0
  ·rw [if_pos h0] at h⊢;obtain ⟨n',o,k',e⟩:=kidsR_err l _ _ h;exact ⟨n',Fa _ o,k',e⟩
  ·rw [if_neg h0] at h⊢;exact ⟨n,Ft ..,k,rfl⟩
theorem holdsL_of {ps:List PT} (h:All2 (fun n p=>Bl m p (ch++[n])=true) l ps):Bk m ps ch l=true:=by
 induction h with
 | nil=>simp [Bk]
 | cons h1 _ ih=>unfold Bk;rw [h1,ih];rfl
theorem incB_of {N:Int}:∀{l:List Int} {b:Int},l.Pairwise (·<·)->(∀x∈l,b<x)->(∀x∈l,x<N)->incB N b l=true
 | [],_,_,_,_=>rfl
 | x :: l,b,hp,h1,h2=>by
  rw [List.pairwise_cons] at hp;unfold incB;rw [EJ (h1 x (Ft ..)),EJ (h2 x (Ft ..)),incB_of hp.2 hp.1 (fun y o=>h2 y (Fa _ o))];rfl
theorem cutT_some (h:cutT m ch=some t):zR m ch<=t/\t<m.tasks.length/\offB m ch t=true:=by
 unfold cutT at h;have h1:=List.find?_some h;have h2:=List.mem_of_find?_eq_some h;obtain ⟨k,o,rfl⟩:=FH.1 h2;rw [FI] at o;exact ⟨by omega,by omega,h1⟩
theorem cutT_none (h:cutT m ch=none) (h0:zR m ch<=t) (h1:t<m.tasks.length):offB m ch t=false:=by
 unfold cutT at h;have:=List.find?_eq_none.1 h t (FH.2 ⟨t - zR m ch,FI.2 (by omega),by omega⟩);simpa using this
theorem cut_holds (z:AO m=0) (I:zx m ch) (h:cutT m ch=some t):cutB m ch t (Cw m ch t) 0=true/\((t:Int)≠zR m ch\/Cw m ch t≠[]):=by
 obtain ⟨h1,h2,h3⟩:=cutT_some h;have g:=zC.of z;have d:=g.dim;rcases cur_of z I with ⟨-,U⟩ | ⟨-,qs,a,Q⟩
 ·omega
 ·have T:=sideP_eq (ch:=ch) z h2;have J:=headP_range z I Q h2;unfold offB at h3;rw [ES,FK,EQ,EQ,Bool.not_eq_true'] at h3;obtain ⟨M,h6⟩:=h3;refine ⟨?_,h6.symm.imp (fun h=>by omega) id⟩;unfold cutB;rw [if_neg]
  ·rw [Fy,M,Bool.not_false,Bool.true_and,ES,ES];rw [T];refine ⟨incB_of (reachL_pw ..) (fun x o=>?_) (fun x o=>?_),?_,?_⟩
   ·have:=((BY d).1 o).range d;omega
   ·exact (((BY d).1 o).range d).2
   ·rw [FN];intro x o;exact EJ ((BY d).2 (RP.base o (J x o).1 (J x o).2))
   ·unfold wallB;rw [FN];intro x o;rw [FN];intro y B;have E:=(BY d).1 o;unfold AR at B
    split at B
    ·by_cases G:zi m t y=true
     ·by_cases L:y∈ch
      ·rw [EJ L];simp
      ·rw [EJ ((BY d).2 (E.step B G L))];simp
     ·have D:zi m t y=false:=by simpa using G
      rw [D];simp
    ·cases B
  ·rintro (h7 | h7 | ⟨h7,O⟩ | h7)
   ·omega
   ·omega
   ·rcases h6 with h6 | h6
    ·exact h6 O
    ·omega
   ·exact h7 rfl
theorem Dh {m:MZ} (o:AO m=0):∀(f:Nat) (ch:List Int) (k:Nat),zx m ch->k<=3000->(zu m f ch k).1=0->Bl m (zu m f ch k).2.1 ch=true/\(zu m f ch k).2.2=k+(zu m f ch k).2.1.size/\(zu m f ch k).2.2<=3000
 | 0,ch,k,_,_,h=>by simp [zu] at h
 | f+1,ch,k,z,I,h=>by
  unfold zu at h⊢
  split at h
  ·simp at h
  ·rename_i h1
   rw [if_neg h1]
   split at h
   ·simp at h
   ·rename_i h2
    rw [if_neg h2]
    split at h
    ·rename_i t G
     obtain ⟨h3,E⟩:=cut_holds o z G;refine ⟨?_,by simp [PT.size,PT.sizeL],by show k+1<=3000;omega⟩;unfold Bl;rw [if_neg h1,if_pos E];exact h3
    ·rename_i D
     have e:zO m ch=cand m ch:=by unfold zO;rw [if_pos (okC_of o z)]
     simp only at h⊢
     split at h
     ·rename_i h3
      rw [if_pos h3];obtain ⟨ps,q1,q2,q3,q4⟩:=kidsR_ok (P:=fun n p=>Bl m p (ch++[n])=true) (zO m ch) (k+1) [] (fun n D k' B h0=>Dh o f (ch++[n]) k' (.snoc z (by rw [<-e];exact D)) B h0) (by omega) h3;rw [q1,List.nil_append];refine ⟨?_,by rw [q3];simp only [PT.size];omega,q4⟩;unfold Bl;rw [if_neg h1,if_neg (by simp)];exact holdsL_of q2
     ·rename_i h3;exact absurd h h3
theorem makeP_ok (B:0<m.tasks.length) (h:(BV m).1=0):BD m (BV m).2=true:=by
 unfold BV at h⊢
 split at h
 ·rename_i o
  rw [if_pos o];obtain ⟨h1,h2,h3⟩:=Dh o _ [] 0 .nil (by omega) h;unfold BD;have z:(zu m (m.n.toNat+2) [] 0).2.1.size<=3000:=by omega
  rw [EJ o,EJ B,EJ z,h1];rfl
 ·rename_i o;exact absurd h o
theorem openC_cut (I:AO m=0) (J:zx m ch) (h:cutT m ch=none) (M:n∈cand m ch):Bb m ch=true:=by
 have g:=zC.of I;have d:=g.dim;rcases cur_of I J with ⟨h1,-⟩ | ⟨h1,qs,a,o⟩
 ·rw [Cb M] at h1;cases h1
 ·have z:(zP m ch).length=qs.length+1:=by rw [o.ps];simp
  unfold Bb openB;rw [FN];intro k L
  have a1:k<m.tasks.length - qs.length:=by
   unfold tasksN at L;rw [FI] at L
   split at L <;> omega
  rw [z,Nat.add_sub_cancel];obtain ⟨t,ht⟩:=zad (qs.length+k);rw [<-ht];have D:t<m.tasks.length:=by omega
  have hcut:=cutT_none h (t:=t) (by rw [o.cur];omega) D;have U:=sideP_eq (ch:=ch) I D
  have O:t=qs.length->Cw m ch t≠[]:=fun e=>by
   have T:=headP_range I J o D
   have:∃x,x∈AE m ch t:=by
    have E:=cand_step (m:=m) (ps:=zP m ch) (us:=ch) M;rw [z,Nat.add_sub_cancel] at E;have hl:(zP m ch).getD qs.length []=a:=by rw [o.ps,EF,EM (EG _)];simp
    rw [hl] at E;by_cases G:a=[]
    ·refine ⟨n,?_⟩;unfold AE;rw [o.pp,if_pos G,if_neg (by omega),FG,e,E.1];exact ⟨E.2.1 G,by simp [(cand_range g (J.range g).1 J.psOk.fl M).2.2]⟩
    ·cases B:a.getLast? with
     | none=>exact absurd (List.getLast?_eq_none_iff.1 B) G
     | some x=>
      refine ⟨x,?_⟩;unfold AE;rw [o.pp,if_neg G,if_pos (by simp;omega),e,EF,EM (EG _)];simp [B]
   obtain ⟨x,B⟩:=this;have:=(BY d (t:=t) (used:=ch)).2 (RP.base B (T x B).1 (T x B).2);rw [U];intro e2;rw [e2] at this;cases this
  unfold offB at hcut;rw [Bool.and_eq_false_iff,Bool.not_eq_false',Bool.or_eq_false_iff,Fd,Fd] at hcut;rcases hcut with hcut | ⟨V,h6⟩
  ·obtain ⟨x,B,Q⟩:=FM.1 hcut;unfold openT;rw [FM];exact ⟨x,zaa Q,by rw [<-headP_eq o (t:=t) (by omega),<-U];exact EJ B⟩
  ·have e:t=qs.length:=by rw [o.cur] at h6;omega
   exact absurd (O e) (by simpa using V)
theorem openC_cmp (h:zX m ch=true):Bb m ch=true:=by
 unfold Bb openB tasksN;unfold zX at h;rw [if_pos h];rfl
theorem proveP_goal {m:MZ} (D:AO m=0):∀(f:Nat) (ch:List Int) (k:Nat),zx m ch->(∀j,j+1<ch.length->Bb m (ch.take (j+1))=true)->(zu m f ch k).1=51->∃c,Goal m c
 | 0,ch,k,_,_,h=>by simp [zu] at h
 | f+1,ch,k,B,J,h=>by
  unfold zu at h
  split at h
  ·rename_i h1
   rcases cur_of D B with ⟨h2,-⟩ | ⟨-,qs,a,G⟩
   ·refine ⟨ch,B,h2,fun j I=>?_⟩;by_cases o:j+1<ch.length
    ·exact J j o
    ·rw [List.take_of_length_le (by omega)];exact openC_cmp h2
   ·have:=G.cur;have:=G.lt;omega
  ·split at h
   ·simp at h
   ·split at h
    ·simp at h
    ·rename_i L
     simp only at h
     split at h
     ·simp at h
     ·rename_i h3
      have e:zO m ch=cand m ch:=by unfold zO;rw [if_pos (okC_of D B)]
      obtain ⟨n,z,k',e2⟩:=kidsR_err _ _ _ h3;rw [e] at z;have E:=openC_cut D B L z;refine proveP_goal D f (ch++[n]) k' (.snoc B z) (fun j I=>?_) (e2.trans h);rw [EO,Ff] at I;rw [List.take_append_of_le_length (by omega)];by_cases o:j+1<ch.length
      ·exact J j o
      ·rw [List.take_of_length_le (by omega)];exact E
theorem Eo {m:MZ}:∀(f:Nat) (ch:List Int) (k:Nat),(zu m f ch k).1=0\/(zu m f ch k).1=51\/(zu m f ch k).1=53
 | 0,ch,k=>by simp [zu]
 | f+1,ch,k=>by
  unfold zu
  split
  ·simp
  ·split
   ·simp
   ·split
    ·simp
    ·simp only
     split
     ·simp
     ·rename_i h3
      obtain ⟨n,-,k',e2⟩:=kidsR_err _ _ _ h3;rw [<-e2];exact Eo f _ _
theorem makeP_search (o:AO m=0) (z:(RS.run m 20000 ⟨[],zX m [],0⟩).done=true) (B:zX m (RS.run m 20000 ⟨[],zX m [],0⟩).ch=false):(BV m).1=0\/(BV m).1=53:=by
 have e:(BV m).1=(zu m (m.n.toNat+2) [] 0).1:=by unfold BV;rw [if_pos o]
 rw [e];rcases Eo (m:=m) (m.n.toNat+2) [] 0 with h | h | h
 ·exact .inl h
 ·obtain ⟨c,hG⟩:=proveP_goal o _ [] 0 .nil (fun j D=>by simp at D) h;have:=run_goal (zC.of o) hG 20000 (s:=⟨[],zX m [],0⟩) .nil (.inl ⟨c,rfl⟩) rfl;rw [z,B] at this;cases this
 ·exact .inr h
theorem addP_refused {ps:List (List Int)} {t:Int} (h:(BW m ps t).err=54):AO (Bx m ps t.toNat)=0/\subO m ps t=Bx m ps t.toNat/\BD (Bx m ps t.toNat) (BW m ps t).why=true/\(endS m ps t.toNat).done=true/\zX (Bx m ps t.toNat) (endS m ps t.toNat).ch=false:=by
 unfold BW at h⊢
 split at h
 ·rename_i E
  rw [if_pos E];rw [ES,ES,EQ] at E;obtain ⟨G,z,h2⟩:=E;obtain ⟨c0,c1,c2,c3⟩:=AN.1 G;have J:=AX.1 z;have g:=subM_good (zC.of c0) c1 t.toNat;have D:subO m ps t=Bx m ps t.toNat:=by unfold subO;rw [G,z];rfl
  have B:0<(Bx m ps t.toNat).tasks.length:=by
   have:t.toNat∈keepL ps t.toNat:=keepL_mem.2 ⟨by omega,keepB_iff.2 (.inl rfl)⟩;simp only [Bx,Fr];exact List.length_pos_of_mem this
  split at h
  ·simp at h
  ·unfold AD at h⊢
   split at h
   ·simp at h
   ·rename_i I
    rw [if_neg I]
    split at h
    ·simp at h
    ·rename_i o
     rw [if_neg o]
     split at h
     ·rename_i hm
      rw [if_pos hm];exact ⟨Dq g,D,makeP_ok B hm,by simpa using I,by simpa using o⟩
     ·rename_i hm
      simp only at h;unfold BV at h;rw [if_pos (Dq g)] at h;rcases Eo (m:=Bx m ps t.toNat) ((Bx m ps t.toNat).n.toNat+2) [] 0 with h5 | h5 | h5 <;> rw [h5] at h <;> cases h
 ·simp at h
theorem addP_errs {ps:List (List Int)} {t:Int} (D:By m ps=true) (G:AM m t=true) (h2:ps.getD t.toNat []=[]):(BW m ps t).err=54\/(((BW m ps t).err=0\/(BW m ps t).err=53)/\(BW m ps t).why=.zero):=by
 obtain ⟨c0,c1,c2,c3⟩:=AN.1 D;have g:=subM_good (zC.of c0) c1 t.toNat;unfold BW;rw [D,G,EJ h2];simp only [Bool.and_self,if_true]
 split
 ·exact .inr ⟨.inl rfl,rfl⟩
 ·unfold AD
  split
  ·exact .inr ⟨.inr rfl,rfl⟩
  ·rename_i E
   split
   ·exact .inr ⟨.inl rfl,rfl⟩
   ·rename_i z
    have B:(endS m ps t.toNat).done=true:=by simpa using E
    have o:zX (Bx m ps t.toNat) (endS m ps t.toNat).ch=false:=by simpa using z
    rcases makeP_search (Dq g) B o with h3 | h3
    ·rw [if_pos h3];exact .inl rfl
    ·rw [h3,if_neg (by decide)];exact .inr ⟨.inr rfl,rfl⟩
end
section
open Go.RowKit
attribute [local go_sem ↓] Go.wp_at_zero Go.wp_at_succ
theorem zK.ext {w w':World} (h:zK w w'):zb w w':=h.below _
structure CP (w wr:World) (g:Nat) (ps:List (List Int)):Prop where
 ext:zb w wr
 lo:w.heap.size<=g
 row:∃vs:List Value,zk wr g 23 vs.toArray/\vs.length=ps.length/\∀(i:Nat) x,ps[i]?=some x->∃u,vs[i]?=some u/\zj wr (fun b=>b≠g/\w.heap.size<=b) u x
section
variable {w wr w':World} {g:Nat} {ps:List (List Int)}
theorem CP.lt (h:CP w wr g ps):g<wr.heap.size:=by obtain ⟨vs,o,-⟩:=h.row;exact zd o
theorem CP.more (h:CP w wr g ps) (o:zb wr w'):CP w w' g ps:=by
 obtain ⟨vs,z,D,he⟩:=h.row;exact ⟨h.ext.trans o,h.lo,vs,z.ext o,D,fun i x G=>by obtain ⟨u,E,B⟩:=he i x G;exact ⟨u,E,B.below o⟩⟩
theorem CP.intss (h:CP w wr g ps) (c:Nat) (B:ps.length<=c):zv wr (fun _=>True) (.slice (some ⟨g,0,none⟩) ps.length c) ps:=by
 obtain ⟨vs,z,G,he⟩:=h.row;refine ⟨vs,⟨_,c,rfl,B,by omega,fun _=>⟨g,0,rfl,trivial,fun j u o=>?_⟩⟩,fun i x E=>by obtain ⟨u,o,D⟩:=he i x E;exact ⟨u,o,D.weaken fun _ _=>trivial⟩⟩;rw [Nat.zero_add];exact z.cell (by simpa using o)
theorem CP.at_ (h:CP w wr g ps) (B:k<ps.length):∃u,wr.cell? ⟨g,k,none⟩=some u/\wr.frozen? ⟨g,k,none⟩=false/\zj wr (fun b=>b≠g/\w.heap.size<=b) u ps[k]:=by
 obtain ⟨vs,o,E,he⟩:=h.row;obtain ⟨u,D,z⟩:=he k _ (EE B);exact ⟨u,o.cell (by simpa using D),o.frozen k,z⟩
theorem CP.set (h:CP w wr g ps) (k:Nat) {u:Value} {x:List Int} (J:zj wr (fun b=>b≠g/\w.heap.size<=b) u x):CP w (wr.setCell ⟨g,k,none⟩ u) g (ps.set k x):=by
 obtain ⟨vs,B,G,he⟩:=h.row;have E:∀{v:Value} {l:List Int},zj wr (fun b=>b≠g/\w.heap.size<=b) v l->zj (wr.setCell ⟨g,k,none⟩ u) (fun b=>b≠g/\w.heap.size<=b) v l:=fun z=>z.keep fun b B _=>EP wr ⟨g,k,none⟩ u b B.1
 refine ⟨h.ext.setCell (p:=⟨g,k,none⟩) h.lo _,h.lo,vs.set k u,?_,by simp [G],fun i y o=>?_⟩
 ·have:=B.set (k:=k) u
  rwa [List.setIfInBounds_toArray] at this
 ·rw [List.getElem?_set] at o⊢;by_cases z:k=i
  ·subst z;rw [if_pos rfl] at o⊢
   split at o
   ·rename_i I
    rw [if_pos (by omega)];injection o with o;subst o;exact ⟨u,rfl,E J⟩
   ·cases o
  ·rw [if_neg z] at o⊢;obtain ⟨v,L,D⟩:=he i y o;exact ⟨v,L,E D⟩
theorem CP.new (w:World) (n:Nat):CP w (w.alloc (.cells (madeCells #[.slice none 0 0] n) 23)) w.heap.size (List.replicate n []):=by
 refine ⟨(zb.refl w).alloc _,EG _,List.replicate n (.slice none 0 0),?_,by simp,fun i x z=>?_⟩
 ·have:(madeCells #[Value.slice none 0 0] n)=(List.replicate n (Value.slice none 0 0)).toArray:=by
   apply Array.ext';apply List.ext_getElem
   ·simp [madeCells]
   ·intro i h1 h2;simp [madeCells,Nat.mod_one]
  rw [this];exact zk.new _ _ _ rfl
 ·obtain ⟨o,e⟩:=FD.1 z;rw [List.getElem_replicate] at e;subst e;exact ⟨.slice none 0 0,by rw [List.getElem?_replicate,if_pos (by simpa using o)],zj.nil _ _⟩
end
theorem take_rep_succ {ps:List (List Int)} (z:k<ps.length):(ps.take k++List.replicate (ps.length - k) []).set k ps[k]=ps.take (k+1)++List.replicate (ps.length - (k+1)) []:=by
 have B:(ps.take k).length=k:=by rw [FA];omega
 rw [List.set_append_right _ _ (by omega),B,Nat.sub_self,EN z,List.append_assoc];obtain ⟨r,D⟩:∃r,ps.length - k=r+1:=⟨ps.length - k - 1,by omega⟩;have o:ps.length - (k+1)=r:=by omega
 rw [D,o,List.replicate_succ];rfl
theorem copied_calls {ok:Nat->Prop} {v:Value} {ps:List (List Int)} (w:World) (h:zv w ok v ps) (hl:ps.length<=1000000) (hx:∀x∈ps,x.length<=100000000000):
  Calls Tryz.prog 39 #[v] w fun e w'=>∃g,e=.returned (.slice (some ⟨g,0,none⟩) ps.length ps.length)/\CP w w' g ps:=by
 obtain ⟨vs,⟨A,c,rfl,hc,V⟩,he⟩:=h;have HR:=zh V;have HE:=zh he;have HX:=zh hx;clear V he hx;obtain ⟨n,hn⟩:=zad ps.length
 have a9:∀W:World,(Instr.makeSlice 22 (.int .i64 (ps.length:Nat)) (.int .i64 (ps.length:Nat))).run Tryz.prog W=.ok (.slice (some ⟨W.heap.size,0,none⟩) ps.length ps.length) (W.alloc (.cells (madeCells #[.slice none 0 0] ps.length) 23)):=fun W=>
  run_make_row' 22 23 (.slice none 0 0) 24 Tryz.underlying22 Tryz.infoInts rfl .i64 .i64 ps.length (by omega) (by omega) W
 go_enter Tryz.func39,Tryz.ntmps39
 go_wp2_with fail
 have z:=zh (CP.new w ps.length);generalize w.alloc _=w1 at z⊢;generalize w.heap.size=g at z⊢;go_loopw [11] (fun i wr=>∃k:Nat,k<=ps.length/\i=.int .i64 (k:Nat)/\Hid (CP w wr g (ps.take k++List.replicate (ps.length - k) []))) (fun i _=>ps.length - (intOf i).toNat)
 case atStart=>exact ⟨0,EU _,rfl,z⟩
 clear z
 case round=>
  obtain ⟨k,hk,rfl,E⟩:=hrel;obtain ⟨wk,rfl⟩:∃wk:World,wk=wr:=⟨_,rfl⟩;by_cases D:k<ps.length
  ·obtain ⟨b,off,u,rfl,_,o,O⟩:=Ai HR.out HE.out D D;have M:wk.cell? ⟨b,off+k,none⟩=some u:=E.out.ext.cell o;have I:=HX.out _ (EH D);have Q:=zh (take_rep_succ D);obtain ⟨q,U⟩:=zad (ps[k]);rw [<-U] at O I Q;have HU:=zh (zj.below O E.out.ext);clear O U o
   go_wp2_with fail
   refine (DQ wk HU.out I).mono ?_;rintro e w9 ⟨v9,rfl,B⟩;obtain ⟨A9,c9,rfl,a6⟩:=B.slice;have a8:=E.out.lt;have G:=zh (E.out.more B.ext);have L:Hid (zj w9 (fun b=>b≠g/\w.heap.size<=b) (.slice A9 q.length c9) q):=B.ints.weaken fun b hb=>⟨by omega,EI E.out.ext.size hb⟩
   clear B;obtain ⟨u0,T,a7,-⟩:=G.out.at_ (k:=k) (by simp;omega);go_wp2;go_roundw
   case rel=>exact ⟨k+1,by omega,by go_num,by rw [<-Q.out];exact G.out.set k L.out⟩
   case measure=>simp [intOf];omega
  ·obtain rfl:k=ps.length:=by omega
   have J:Hid (CP w wk g ps):=by have:=E.out;rw [ER,Nat.sub_self,List.replicate_zero,List.append_nil] at this;exact this
   go_wp2;go_ret;exact ⟨g,rfl,J.out⟩
end
end Go.Proofs.YthbjngbhbbkkgaaGreat
