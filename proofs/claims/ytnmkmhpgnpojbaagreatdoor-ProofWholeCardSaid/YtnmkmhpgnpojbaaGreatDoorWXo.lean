import Derived.Test.YtnmkmhpgnpojbaaGreatDoorWXn
import Derived.ArgAppend
set_option linter.unusedVariables false
set_option linter.unusedSimpArgs false
set_option maxRecDepth 100000
set_option maxHeartbeats 16000000
namespace Go.Proofs.YtnmkmhpgnpojbaaGreatDoor
variable {n:Int} {fixed qs:List (List Int)} {a ch p:List Int} {m:MZ} {cf k t:Nat} {ok:Nat->Prop} {Af:Option Addr}
section
open Go.RowKit
theorem right_ch (g:zE m) (h:zr m ch) (I:zL m ch=true):rightB m (zC m ch)=true:=by
 obtain ⟨M,O⟩:=h.all I;have L:=h.range g;have z:=h.psOk.fl;have J:∀t x,x∈(zC m ch).getD t []->x∈ch:=fun t x o=>by rw [<-z];exact AP.2 ⟨t,o⟩
 refine BP.2 ⟨good_chk g,M,fun t ht=>?_,apart_iff.1 (by rw [z];exact L.2)⟩;have e:(zC m ch).getD t []=(zC m ch)[t]:=zgd ht
 obtain ⟨G,x,o,K⟩:=O t _ (Do ht);have d:=J t;rw [e] at d⊢;generalize (zC m ch)[t]=p at G o d;have D:p≠[]:=fun e=>by subst e;cases o
 have E:0<p.length:=List.length_pos_iff.2 D;refine ⟨D,G.hd _ ?_,?_,fun y Q=>L.1 y (d y Q),G.fr,G.nb⟩
 ·rw [List.head?_eq_getElem?,Dp,Do E];rfl
 ·rw [List.getLast?_eq_getElem?,Do (by omega)] at o;have e2:p.getD (p.length - 1) 0=p[p.length - 1]:=by rw [Dp,Do (by omega),DW]
  injection o with o;rw [e2,o];exact K
theorem combos_sub:∀(k:Nat) (l s:List Int),s∈combos k l->s.Sublist l
 | 0,l,s,h=>by
  have:s=[]:=by simpa [combos] using h
  subst this;exact List.nil_sublist l
 | k+1,[],s,h=>by simp [combos] at h
 | k+1,x :: l,s,h=>by
  unfold combos at h;rcases Eg.1 h with h | h
  ·obtain ⟨s',d,rfl⟩:=Er.1 h;exact (combos_sub k l s' d).cons_cons x
  ·exact (combos_sub (k+1) l s h).cons x
theorem subsP_sub {l s:List Int} (h:s∈subsP l):s.Sublist l:=by
 unfold subsP at h;obtain ⟨k,-,h⟩:=List.mem_flatMap.1 h;exact combos_sub k l s h
theorem mem_laidL {ps:List (List Int)} {x:Int}:x∈laidL ps↔∃k:Nat,k<ps.length/\x=(k:Int)/\ps.getD k []≠[]:=by
 unfold laidL;rw [Er];constructor
 ·rintro ⟨k,d,rfl⟩;rw [Ep,Es] at d;exact ⟨k,d.1,rfl,Ew d.2⟩
 ·rintro ⟨k,d,rfl,o⟩;exact ⟨k,Ep.2 ⟨Es.2 d,Du o⟩,rfl⟩
theorem nodup_ints {l:List Nat} (h:l.Nodup):(l.map Int.ofNat).Nodup:=by
 rw [List.nodup_iff_pairwise_ne] at h⊢;rw [List.pairwise_map];exact h.imp fun d e=>d (Int.ofNat.inj e)
theorem laidL_nodup (ps:List (List Int)):(laidL ps).Nodup:=nodup_ints ((range_nodup _).filter _)
theorem CH:∀(s:List Int) (ps:List (List Int)),(clearP ps s).length=ps.length
 | [],ps=>rfl
 | x :: s,ps=>by
  have d:=CH s (ps.set x.toNat []);unfold clearP at d⊢;rw [List.foldl_cons,d,List.length_set]
theorem clearP_get:∀(s:List Int) (ps:List (List Int)) (k:Nat),(∀x∈s,0<=x)->(clearP ps s).getD k []=if (k:Int)∈s then [] else ps.getD k []
 | [],ps,k,_=>by simp [clearP]
 | x :: s,ps,k,h=>by
  have z:=clearP_get s (ps.set x.toNat []) k (fun y E=>h y (DM _ E));have h0:=h x (Ed ..);unfold clearP at z⊢;rw [List.foldl_cons,z,AT];by_cases d:(k:Int)∈s
  ·rw [if_pos d,if_pos (DM _ d)]
  ·rw [if_neg d];by_cases o:(k:Int)=x
   ·have hm:(k:Int)∈x :: s:=by rw [o];exact Ed ..
    rw [if_pos hm]
    split
    ·rfl
    ·rename_i D
     have G:¬ k<ps.length:=fun h=>D ⟨by omega,h⟩
     rw [Dp,DL (by omega)];rfl
   ·have hm:(k:Int)∉x :: s:=fun hc=>by
     rcases Ef.1 hc with hc | hc
     ·exact o hc
     ·exact d hc
    rw [if_neg hm,if_neg (fun hc=>o (by omega))]
theorem PathI.pathT (h:PathI m t fixed p):PathT m t p:=⟨h.ne,h.hd,h.lt,h.rg,fun x d=>(h.fr x d).1,h.ch⟩
theorem pushL_ok {m:MZ}:∀(L:List Int) (o r:List (List Int)),pushL m L o=some r->L.Nodup->(∀k∈L,0<=k/\k<o.length/\o.getD k.toNat []=[])->(∀k,k<o.length->o.getD k []≠[]->PathT m k (o.getD k []))->Apart o->
  r.length=o.length/\(∀k,k<o.length->r.getD k []≠[]->PathT m k (r.getD k []))/\Apart r/\(∀k∈L,r.getD k.toNat []≠[])/\∀k:Nat,(k:Int)∉L->r.getD k []=o.getD k []
 | [],o,r,h,_,_,G,I=>by
  unfold pushL at h;injection h with h;subst h;exact ⟨rfl,G,I,fun k hk=>(by cases hk),fun k _=>rfl⟩
 | a :: L,o,r,h,U,E,G,I=>by
  unfold pushL at h
  split at h
  ·cases h
  ·rename_i p hp
   obtain ⟨D,⟨z,O⟩,hI⟩:=pathP_ok hp;obtain ⟨_,K,M⟩:=E a (Ed ..);have hnd:=List.nodup_cons.1 U
   have d:∀k∈L,k.toNat≠a.toNat:=fun k hk e=>by
    have:=(E k (DM _ hk)).1;have:k=a:=by omega
    subst this;exact hnd.1 hk
   obtain ⟨r1,r2,r3,r4,r5⟩:=pushL_ok L (o.set a.toNat p) r h hnd.2 (fun k hk=>by
     obtain ⟨b0,b1,b2⟩:=E k (DM _ hk);refine ⟨b0,by rw [List.length_set];exact b1,?_⟩;rw [AT,if_neg (by have:=d k hk;omega)];exact b2)
    (fun k hk d=>by
     rw [List.length_set] at hk;rw [AT] at d⊢
     split
     ·rename_i J
      have:=hI.pathT
      rwa [J.1] at this
     ·rename_i J
      rw [if_neg J] at d;exact G k hk d)
    (I.set hI.nd fun x V i _ Q=>(hI.fr x V).2 (AP.2 ⟨i,Q⟩))
   rw [List.length_set] at r1 r2;refine ⟨r1,r2,r3,fun k hk=>?_,fun k hk=>?_⟩
   ·rcases Ef.1 hk with rfl | hk
    ·have:r.getD k.toNat []=p:=by
      rw [r5 k.toNat (by rw [Int.toNat_of_nonneg z];exact hnd.1),AT,if_pos ⟨rfl,by omega⟩]
     rw [this];exact hI.ne
    ·exact r4 k hk
   ·rw [r5 k (fun D=>hk (DM _ D)),AT,if_neg];intro D;exact hk (by rw [<-D.1,Int.toNat_of_nonneg z];exact Ed ..)
structure Kept (m:MZ) (ps:List (List Int)) (t:Nat) (qs:List (List Int)) (mv:List Int):Prop where
 len:qs.length=ps.length
 laid:laidB m qs=true
 ne:∀k,k<ps.length->(qs.getD k []≠[]↔AY ps t k=true)
 same:∀k:Nat,k<ps.length->k≠t->(k:Int)∉mv->qs.getD k []=ps.getD k []
 tm:(t:Int)∉mv
theorem keepB_iff {ps:List (List Int)}:AY ps t k=true↔k=t\/ps.getD k []≠[]:=by
 unfold AY;rw [Et,DB,DB]
theorem push_kept {ps:List (List Int)} {t:Int} {s:List Int} (hL:laidB m ps=true) (h0:0<=t) (V:t<ps.length) (L:ps.getD t.toNat []=[]) (hs:s∈subsP (laidL ps)) (h:pushP m ps t s=some qs):Kept m ps t.toNat qs s:=by
 obtain ⟨c0,c1,c2,c3⟩:=AU.1 hL;have D:=subsP_sub hs;have z:∀x∈s,∃k:Nat,k<ps.length/\x=(k:Int)/\ps.getD k []≠[]:=fun x Q=>mem_laidL.1 (D.subset Q)
 have M:∀x∈s,0<=x:=fun x Q=>by obtain ⟨k,-,rfl,-⟩:=z x Q;omega
 have O:t∉s:=fun hc=>by
  obtain ⟨k,hk,rfl,d⟩:=z t hc;rw [Eh] at L;exact d L
 have G:=fun k=>clearP_get s ps k M
 obtain ⟨r1,r2,r3,r4,r5⟩:=pushL_ok (t :: s) (clearP ps s) qs h (List.nodup_cons.2 ⟨O,(laidL_nodup ps).sublist D⟩)
  (fun k hk=>by
   rw [CH,G];rcases Ef.1 hk with rfl | hk
   ·exact ⟨h0,V,by split;rfl;exact L⟩
   ·obtain ⟨j,I,rfl,d⟩:=z k hk;exact ⟨by omega,by omega,by rw [if_pos (by rwa [Eh])]⟩)
  (fun k hk d=>by
   rw [CH] at hk;rw [G] at d⊢
   split at d
   ·exact absurd rfl d
   ·rename_i h4
    rw [if_neg h4];exact c2 k hk d)
  ⟨fun i=>by rw [G];split;exact List.nodup_nil;exact c3.1 i,fun i j x K I=>by
   rw [G] at K I
   split at K
   ·cases K
   ·split at I
    ·cases I
    ·exact c3.2 i j x K I⟩
 rw [CH] at r1 r2;refine ⟨r1,AU.2 ⟨c0,by omega,fun k hk=>r2 k (by omega),r3⟩,fun k hk=>?_,fun k hk E J=>?_,by rwa [Int.toNat_of_nonneg h0]⟩
 ·rw [keepB_iff];by_cases E:k=t.toNat
  ·subst E;exact ⟨fun _=>.inl rfl,fun _=>r4 t (Ed ..)⟩
  ·by_cases o:(k:Int)∈s
   ·have U:=r4 k (DM _ o);rw [Eh] at U;obtain ⟨j,I,e,d⟩:=z _ o;have:j=k:=by omega
    subst this;exact ⟨fun _=>.inr d,fun _=>U⟩
   ·rw [r5 k (fun hc=>by rcases Ef.1 hc with hc | hc;omega;exact o hc),G,if_neg o];exact ⟨.inr,fun hc=>hc.elim (fun e=>absurd e E) id⟩
 ·rw [r5 k (fun hc=>by rcases Ef.1 hc with hc | hc;omega;exact J hc),G,if_neg J]
theorem fillP_ok {ps:List (List Int)} {t:Nat}:∀(l:List Nat) (fd o:List (List Int)) (mv:List Int),l.Nodup->(∀k∈l,k<o.length)->fd.length=(l.filter (AY ps t)).length->
  (fillP ps t l fd o mv).1.length=o.length/\(l.filter (AY ps t)).map ((fillP ps t l fd o mv).1.getD · [])=fd/\(∀k,(k∈l->AY ps t k=false)->(fillP ps t l fd o mv).1.getD k []=o.getD k [])/\
   (∀x∈(fillP ps t l fd o mv).2,x∈mv\/∃k:Nat,k∈l/\k≠t/\x=(k:Int))/\(∀x∈mv,x∈(fillP ps t l fd o mv).2)/\∀k:Nat,k∈l->AY ps t k=true->k≠t->(k:Int)∉(fillP ps t l fd o mv).2->(fillP ps t l fd o mv).1.getD k []=ps.getD k []
 | [],fd,o,mv,_,_,h=>by
  have:fd=[]:=by simpa using h
  subst this;exact ⟨rfl,rfl,fun _ _=>rfl,fun x D=>.inl D,fun x D=>D,fun k d=>(by cases d)⟩
 | a :: l,fd,o,mv,U,K,h=>by
  have hnd:=List.nodup_cons.1 U;unfold fillP;by_cases d:AY ps t a=true
  ·rw [if_pos d];rw [Ek d] at h⊢
   cases fd with
   | nil=>simp at h
   | cons f fd=>
    simp only [List.headD_cons,List.tail_cons];obtain ⟨r1,r2,r3,r4,r5,r6⟩:=fillP_ok l fd (o.set a f) (mvP ps t a f mv) hnd.2 (fun k d=>by rw [List.length_set];exact K k (DM _ d)) (by simpa using h)
    have O:(fillP ps t l fd (o.set a f) (mvP ps t a f mv)).1.getD a []=f:=by
     rw [r3 a (fun I=>absurd I hnd.1),AT,if_pos ⟨rfl,K a (Ed ..)⟩]
    refine ⟨by rw [r1,List.length_set],by rw [List.map_cons,r2,O],fun k hk2=>?_,fun x D=>?_,fun x D=>?_,fun k hk2 z E G=>?_⟩
    ·by_cases M:k=a
     ·subst M;rw [hk2 (Ed ..)] at d;cases d
     ·rw [r3 k (fun I=>hk2 (DM _ I)),AT,if_neg (by omega)]
    ·rcases r4 x D with h4 | ⟨k,h4,J,rfl⟩
     ·unfold mvP at h4
      split at h4
      ·rename_i Q
       rcases Eg.1 h4 with h4 | h4
       ·exact .inl h4
       ·exact .inr ⟨a,Ed ..,Q.1,by simpa using h4⟩
      ·exact .inl h4
     ·exact .inr ⟨k,DM _ h4,J,rfl⟩
    ·refine r5 x ?_;unfold mvP
     split
     ·exact List.mem_append_left _ D
     ·exact D
    ·rcases Ef.1 hk2 with rfl | hk2
     ·rw [O];by_cases he:ps.getD k []=f
      ·exact he.symm
      ·exact absurd (r5 _ (by unfold mvP;rw [if_pos ⟨E,he⟩];simp)) G
     ·exact r6 k hk2 z E G
  ·have L:AY ps t a=false:=by simpa using d
   rw [if_neg d];rw [DZ d] at h⊢;obtain ⟨r1,r2,r3,r4,r5,r6⟩:=fillP_ok l fd o mv hnd.2 (fun k d=>K k (DM _ d)) h;refine ⟨r1,r2,fun k hk2=>r3 k (fun I=>hk2 (DM _ I)),fun x D=>?_,r5,fun k hk2 z E G=>?_⟩
   ·rcases r4 x D with h4 | ⟨k,h4,J,rfl⟩
    ·exact .inl h4
    ·exact .inr ⟨k,DM _ h4,J,rfl⟩
   ·rcases Ef.1 hk2 with rfl | hk2
    ·rw [L] at z;cases z
    ·exact r6 k hk2 z E G
theorem endS_isCh {ps:List (List Int)}:zr (subM m ps t) (endS m ps t).ch:=run_isCh 20000 (s:=⟨[],zL (subM m ps t) [],0⟩) zr.nil
theorem addP_kept {ps:List (List Int)} {t:Int} (h:(addP m ps t).err=0):(laidB m ps=true/\(0<=t/\t<m.tasks.length)/\ps.getD t.toNat []=[])/\Kept m ps t.toNat (addP m ps t).ps (addP m ps t).mv:=by
 unfold addP at h⊢
 split at h
 ·rename_i E
  rw [if_pos E];rw [DD,DD,DB,knownB_iff] at E;obtain ⟨hL,⟨a0,h0,V⟩,U⟩:=E;obtain ⟨c0,c1,c2,c3⟩:=AU.1 hL;refine ⟨⟨hL,⟨h0,V⟩,U⟩,?_⟩
  split at h
  ·rename_i r D
   obtain ⟨s,hs,hp⟩:=List.exists_of_findSome?_eq_some D;rw [Option.map_eq_some_iff] at hp;obtain ⟨o,ho,rfl⟩:=hp;exact push_kept hL h0 (by omega) U hs ho
  ·have g:=subM_good (zE.of c0) c1 t.toNat;unfold searchP at h⊢
   split at h
   ·simp at h
   ·rename_i hd
    rw [if_neg hd]
    split at h
    ·rename_i G
     rw [if_pos G];have L:=endS_isCh (m:=m) (ps:=ps) (t:=t.toNat);have D:=right_ch g L G;have I:=(BP.1 D).2.1
     have d:(zC (subM m ps t.toNat) (endS m ps t.toNat).ch).length=((List.range ps.length).filter (AY ps t.toNat)).length:=by
      rw [I];simp [subM,BT]
     generalize zC (subM m ps t.toNat) (endS m ps t.toNat).ch=fd at D d;obtain ⟨r1,r2,r3,r4,r5,r6⟩:=fillP_ok (ps:=ps) (t:=t.toNat) (List.range ps.length) fd ps [] (range_nodup _) (fun k J=>Es.1 J) d;have r2':(BT ps t.toNat).map ((fillP ps t.toNat (List.range ps.length) fd ps []).1.getD · [])=fd:=r2;rw [<-r2'] at D
     obtain ⟨q1,q2⟩:=right_laid c0 c1 r1 (fun k J z=>by
      rw [r3 k (fun _=>z)];apply Decidable.byContradiction;intro Q;rw [keepB_iff.2 (.inr Q)] at z;cases z) D
     refine ⟨r1,q1,q2,fun k J O M=>?_,fun E=>?_⟩
     ·cases z:AY ps t.toNat k with
      | true=>exact r6 k (Es.2 J) z O M
      | false=>exact r3 k (fun _=>z)
     ·rcases r4 _ E with K | ⟨k,_,h5,h6⟩
      ·cases K
      ·omega
    ·split at h
     ·simp at h
     ·rename_i K;exact absurd h K
 ·simp at h
theorem okC_of (d:AS m=0) (h:zr m ch):okC m ch=true:=by
 unfold okC;rw [Du d,Bd.2 h];rfl
theorem curF_eq {m:MZ} {pp:List (List Int)} {c:Nat}:∀(f t:Nat),t<=c->c<=t+f->(∀j,t<=j->j<c->j<pp.length/\endB m pp j=true)->¬ (c<pp.length/\endB m pp c=true)->curF m pp f t=c
 | 0,t,h0,D,_,_=>by unfold curF;omega
 | f+1,t,h0,D,o,z=>by
  unfold curF;by_cases h:t=c
  ·subst h;rw [if_neg z]
  ·rw [if_pos (o t (Dq _) (by omega))];exact curF_eq f (t+1) (by omega) (by omega) (fun j E d=>o j (by omega) d) z
theorem fin_last (h:zr m ch) (d:(zC m ch).length<m.tasks.length):finB m (zC m ch)=false:=by
 have o:∀l:List (List Int),finB m (l++[[]])=false:=fun l=>by
  unfold finB
  have:(l++[([]:List Int)]).getD ((l++[([]:List Int)]).length - 1) []=[]:=by
   rw [Dz,DR,Nat.add_sub_cancel,Dp,Dx (Dq _)];simp
  rw [this];rfl
 cases h with
 | nil=>
  rw [psOf_nil] at d⊢;unfold ps0 at d⊢
  split
  ·rename_i h0;omega
  ·exact o []
 | @snoc ch n h z=>
  rw [CC] at d⊢;unfold AW at d⊢
  split
  ·exact o _
  ·rename_i h0
   rw [if_neg h0,Cc] at d
   cases hf:finB m (Bo (zC m ch) n) with
   | false=>rfl
   | true=>exact absurd ⟨hf,d⟩ h0
structure Cur (m:MZ) (ch:List Int) (qs:List (List Int)) (a:List Int):Prop where
 ps:zC m ch=qs++[a]
 lt:qs.length<m.tasks.length
 cur:zO m ch=qs.length
 pp:zp m ch=if a=[] then qs else qs++[a]
theorem ne_of_fin (h:FinP m t p):p≠[]:=by
 obtain ⟨x,d,-⟩:=h;intro e;subst e;cases d
theorem endB_fin {pp:List (List Int)} (hp:pp[t]?=some p) (h:FinP m t p):endB m pp t=true:=by
 obtain ⟨x,o,d⟩:=h;unfold endB;rw [Dp,hp,DW,o];exact Du d
theorem filter_ne {l:List (List Int)} (h:∀q∈l,q≠[]):l.filter (fun p=>decide (p.length≠0))=l:=
 List.filter_eq_self.2 fun q d=>Du (fun e=>h q d (List.length_eq_zero_iff.1 e))
theorem cur_of (hc:AS m=0) (h:zr m ch):(zL m ch=true/\zO m ch=m.tasks.length)\/(zL m ch=false/\∃qs a,Cur m ch qs a):=by
 have g:=zE.of hc;have hO:=h.psOk;have hR:=h.psR;have O:zp m ch=(zC m ch).filter (fun p=>decide (p.length≠0)):=by unfold zp;rw [if_pos (okC_of hc h)]
 cases z:zL m ch with
 | true=>
  left
  obtain ⟨h1,h2⟩:=h.all z
  have K:zp m ch=zC m ch:=by
   rw [O];refine filter_ne fun q hq=>?_
   obtain ⟨i,V,rfl⟩:=DX hq;exact ne_of_fin (h2 i _ (Do V)).2
  refine ⟨rfl,?_⟩;unfold zO;rw [K];refine curF_eq _ _ (DF _) (by omega) (fun j _ d=>?_) (fun hx=>by omega);have I:j<(zC m ch).length:=by omega
  exact ⟨I,endB_fin (Do I) (h2 j _ (Do I)).2⟩
 | false=>
  right
  refine ⟨rfl,?_⟩;have ht:=Bq (ps:=zC m ch) z;have G:=hO.pn ht;rcases List.eq_nil_or_concat (zC m ch) with he | ⟨qs,a,he⟩
  ·rw [he] at G;cases G
  ·rw [List.concat_eq_append] at he;have E:(zC m ch).length=qs.length+1:=by rw [he];simp
   have D:∀j (d:j<qs.length),FinP m j qs[j]:=fun j d=>hR.fin j _ (by rw [he,Dw d,Do d]) (by omega)
   have a1:∀q∈qs,q≠[]:=fun q hq=>by
    obtain ⟨i,V,rfl⟩:=DX hq;exact ne_of_fin (D i V)
   have o:zp m ch=if a=[] then qs else qs++[a]:=by
    rw [O,he,List.filter_append,filter_ne a1];by_cases J:a=[]
    ·subst J;simp
    ·rw [if_neg J,filter_ne (l:=[a]) (by simpa using J)]
   have a9:=hO.pl;refine ⟨qs,a,he,by omega,?_,o⟩
   have d:∀j (d:j<qs.length),(zp m ch)[j]?=some qs[j]:=fun j d=>by
    rw [o]
    split
    ·exact Do d
    ·rw [Dw d,Do d]
   unfold zO;refine curF_eq _ _ (DF _) ?_ (fun j _ M=>?_) ?_
   ·rw [o];split <;> simp
   ·have h3:=d j M;obtain ⟨Q,-⟩:=Em.1 h3;exact ⟨Q,endB_fin h3 (D j M)⟩
   ·rintro ⟨Q,U⟩;have J:a≠[]:=fun e=>by rw [o,if_pos e] at Q;omega
    have h6:(zp m ch).getD qs.length []=a:=by
     rw [o,if_neg J,Dp,Dx (Dq _)];simp
    unfold endB at U;rw [h6] at U
    have L:finB m (zC m ch)=true:=by
     unfold finB;rw [E,Nat.add_sub_cancel]
     have:(zC m ch).getD qs.length []=a:=by
      rw [he,Dp,Dx (Dq _)];simp
     rw [this];exact U
    unfold zL cmpB at z;rw [L,Bool.and_true,Bool.or_eq_false_iff,DP,DP] at z;have h7:qs.length+1<m.tasks.length:=by omega
    exact absurd L (by rw [fin_last h (by rw [E];exact h7)];simp)
theorem headP_eq (h:Cur m ch qs a) (ht:qs.length<=t):zZ m ch t=AK m (zC m ch) ch t:=by
 have hf:∀n:Int,(!(!zf m t n || decide (n∈ch)))=(zf m t n && !decide (n∈ch)):=fun n=>by cases zf m t n <;> simp
 unfold zZ AK;simp only [hf];rw [h.pp,h.ps];by_cases o:a=[]
 ·subst o;rw [if_pos rfl,if_neg (by omega)];by_cases d:t+1=(qs++[([]:List Int)]).length
  ·have e:t=qs.length:=by simpa using d
   subst e;rw [if_pos d,Dp (l:=qs++[[]]),Dx (Dq _)];simp
  ·rw [if_neg d]
 ·rw [if_neg o];by_cases d:t=qs.length
  ·subst d;have e:(qs++[a]).getD qs.length []=a:=by rw [Dp,Dx (Dq _)];simp
   rw [if_pos (by simp),if_pos (by simp),e]
   cases z:a.getLast? with
   | none=>exact absurd (List.getLast?_eq_none_iff.1 z) o
   | some x=>rfl
  ·rw [if_neg (by simp;omega),if_neg (by simp;omega)]
theorem headP_range (D:AS m=0) (z:zr m ch) (h:Cur m ch qs a) (ht:t<m.tasks.length):∀x∈zZ m ch t,0<=x/\x<m.n:=by
 have g:=zE.of D;intro x d;unfold zZ at d
 split at d
 ·rw [Option.mem_toList] at d;have o:x∈(zp m ch).flatten:=AP.2 ⟨t,List.mem_of_getLast? d⟩;refine (z.range g).1 x ?_;rw [<-z.psOk.fl,h.ps];rw [h.pp] at o
  split at o
  ·rw [List.flatten_append];exact List.mem_append_left _ o
  ·exact o
 ·rw [Ep,Dp,Do ht] at d;exact g.tn _ (Dr ht) x (.inl d.1)
theorem sideP_eq (d:AS m=0) (ht:t<m.tasks.length):By m ch t=Bh m t (zZ m ch t) ch:=by
 unfold By reachO;rw [if_pos ⟨d,by omega,by omega⟩,Eh]
inductive All2 (P:Int->PT->Prop):List Int->List PT->Prop
 | nil:All2 P [] []
 | cons {n:Int} {p:PT} {l:List Int} {ps:List PT}:P n p->All2 P l ps->All2 P (n :: l) (p :: ps)
theorem kidsR_ok {f:Int->Nat->Int×PT×Nat} {P:Int->PT->Prop}:∀(l:List Int) (k:Nat) (acc:List PT),(∀n∈l,∀k,k<=3000->(f n k).1=0->P n (f n k).2.1/\(f n k).2.2=k+(f n k).2.1.size/\(f n k).2.2<=3000)->k<=3000->(zI f l k acc).1=0->
  ∃ps,(zI f l k acc).2.1=acc++ps/\All2 P l ps/\(zI f l k acc).2.2=k+PT.sizeL ps/\(zI f l k acc).2.2<=3000
 | [],k,acc,_,d,_=>⟨[],by simp [zI],.nil,by simp [zI,PT.sizeL],d⟩
 | n :: l,k,acc,hf,d,h=>by
  unfold zI at h⊢;by_cases h0:(f n k).1=0
  ·rw [if_pos h0] at h⊢;obtain ⟨o,z,D⟩:=hf n (Ed ..) k d h0;obtain ⟨ps,q1,q2,q3,q4⟩:=kidsR_ok l _ (acc++[(f n k).2.1]) (fun n' E=>hf n' (DM _ E)) D h;exact ⟨(f n k).2.1 :: ps,by rw [q1];simp,.cons o q2,by rw [q3,z];simp only [PT.sizeL];omega,q4⟩
  ·rw [if_neg h0] at h;exact absurd h h0
theorem kidsR_err {f:Int->Nat->Int×PT×Nat}:∀(l:List Int) (k:Nat) (acc:List PT),(zI f l k acc).1≠0->∃n∈l,∃k',(f n k').1=(zI f l k acc).1
 | [],k,acc,h=>absurd rfl h
 | n :: l,k,acc,h=>by
  unfold zI at h⊢;by_cases h0:(f n k).1=0
  ·rw [if_pos h0] at h⊢;obtain ⟨n',d,k',e⟩:=kidsR_err l _ _ h;exact ⟨n',DM _ d,k',e⟩
  ·rw [if_neg h0] at h⊢;exact ⟨n,Ed ..,k,rfl⟩
theorem holdsL_of {l:List Int} {ps:List PT} (h:All2 (fun n p=>AE m p (ch++[n])=true) l ps):AA m ps ch l=true:=by
 induction h with
 | nil=>simp [AA]
 | cons d _ ih=>unfold AA;rw [d,ih];rfl
theorem incB_of {N:Int}:∀{l:List Int} {b:Int},l.Pairwise (·<·)->(∀x∈l,b<x)->(∀x∈l,x<N)->incB N b l=true
 | [],_,_,_,_=>rfl
 | x :: l,b,hp,o,d=>by
  rw [List.pairwise_cons] at hp;unfold incB;rw [Du (o x (Ed ..)),Du (d x (Ed ..)),incB_of hp.2 hp.1 (fun y z=>d y (DM _ z))];rfl
theorem cutT_some (h:cutT m ch=some t):zO m ch<=t/\t<m.tasks.length/\offB m ch t=true:=by
 unfold cutT at h;have d:=List.find?_some h;have o:=List.mem_of_find?_eq_some h;obtain ⟨k,z,rfl⟩:=Er.1 o;rw [Es] at z;exact ⟨by omega,by omega,d⟩
theorem cutT_none (h:cutT m ch=none) (h0:zO m ch<=t) (d:t<m.tasks.length):offB m ch t=false:=by
 unfold cutT at h;have:=List.find?_eq_none.1 h t (Er.2 ⟨t - zO m ch,Es.2 (by omega),by omega⟩);simpa using this
theorem cut_holds (z:AS m=0) (K:zr m ch) (h:cutT m ch=some t):cutB m ch t (By m ch t) 0=true/\((t:Int)≠zO m ch\/By m ch t≠[]):=by
 obtain ⟨h1,J,E⟩:=cutT_some h;have g:=zE.of z;have d:=g.dim;rcases cur_of z K with ⟨-,h4⟩ | ⟨-,qs,a,U⟩
 ·omega
 ·have V:=sideP_eq (ch:=ch) z J;have L:=headP_range z K U J;unfold offB at E;rw [DD,Et,DB,DB,Bool.not_eq_true'] at E;obtain ⟨O,h6⟩:=E;refine ⟨?_,h6.symm.imp (fun h=>by omega) id⟩;unfold cutB;rw [if_neg]
  ·rw [Eh,O,Bool.not_false,Bool.true_and,DD,DD];rw [V];refine ⟨incB_of (reachL_pw ..) (fun x o=>?_) (fun x o=>?_),?_,?_⟩
   ·have:=((Bp d).1 o).range d;omega
   ·exact (((Bp d).1 o).range d).2
   ·rw [Ev];intro x o;exact Du ((Bp d).2 (RP.base o (L x o).1 (L x o).2))
   ·unfold wallB;rw [Ev];intro x o;rw [Ev];intro y D;have I:=(Bp d).1 o;unfold BK at D
    split at D
    ·by_cases hf:zf m t y=true
     ·by_cases M:y∈ch
      ·rw [Du M];simp
      ·rw [Du ((Bp d).2 (I.step D hf M))];simp
     ·have G:zf m t y=false:=by simpa using hf
      rw [G];simp
    ·cases D
  ·rintro (h7 | h7 | ⟨h7,Q⟩ | h7)
   ·omega
   ·omega
   ·rcases h6 with h6 | h6
    ·exact h6 Q
    ·omega
   ·exact h7 rfl
theorem Ca {m:MZ} (z:AS m=0):∀(f:Nat) (ch:List Int) (k:Nat),zr m ch->k<=3000->(zm m f ch k).1=0->AE m (zm m f ch k).2.1 ch=true/\(zm m f ch k).2.2=k+(zm m f ch k).2.1.size/\(zm m f ch k).2.2<=3000
 | 0,ch,k,_,_,h=>by simp [zm] at h
 | f+1,ch,k,D,K,h=>by
  unfold zm at h⊢
  split at h
  ·simp at h
  ·rename_i o
   rw [if_neg o]
   split at h
   ·simp at h
   ·rename_i I
    rw [if_neg I]
    split at h
    ·rename_i t ht
     obtain ⟨d,J⟩:=cut_holds z D ht;refine ⟨?_,by simp [PT.size,PT.sizeL],by show k+1<=3000;omega⟩;unfold AE;rw [if_neg o,if_pos J];exact d
    ·rename_i G
     have e:zQ m ch=cand m ch:=by unfold zQ;rw [if_pos (okC_of z D)]
     simp only at h⊢
     split at h
     ·rename_i d
      rw [if_pos d];obtain ⟨ps,q1,q2,q3,q4⟩:=kidsR_ok (P:=fun n p=>AE m p (ch++[n])=true) (zQ m ch) (k+1) [] (fun n G k' E h0=>Ca z f (ch++[n]) k' (.snoc D (by rw [<-e];exact G)) E h0) (by omega) d;rw [q1,List.nil_append];refine ⟨?_,by rw [q3];simp only [PT.size];omega,q4⟩;unfold AE;rw [if_neg o,if_neg (by simp)];exact holdsL_of q2
     ·rename_i d;exact absurd h d
theorem makeP_ok (ht:0<m.tasks.length) (h:(zJ m).1=0):Az m (zJ m).2=true:=by
 unfold zJ at h⊢
 split at h
 ·rename_i d
  rw [if_pos d];obtain ⟨o,D,E⟩:=Ca d _ [] 0 .nil (by omega) h;unfold Az;have z:(zm m (m.n.toNat+2) [] 0).2.1.size<=3000:=by omega
  rw [Du d,Du ht,Du z,o];rfl
 ·rename_i d;exact absurd h d
theorem openC_cut (J:AS m=0) (K:zr m ch) (h:cutT m ch=none) (O:n∈cand m ch):Ay m ch=true:=by
 have g:=zE.of J;have d:=g.dim;rcases cur_of J K with ⟨L,-⟩ | ⟨L,qs,a,o⟩
 ·rw [BO O] at L;cases L
 ·have z:(zC m ch).length=qs.length+1:=by rw [o.ps];simp
  unfold Ay openB;rw [Ev];intro k M
  have a3:k<m.tasks.length - qs.length:=by
   unfold tasksN at M;rw [Es] at M
   split at M <;> omega
  rw [z,Nat.add_sub_cancel];obtain ⟨t,ht⟩:=Ez (qs.length+k);rw [<-ht];have E:t<m.tasks.length:=by omega
  have hcut:=cutT_none h (t:=t) (by rw [o.cur];omega) E;have hs:=sideP_eq (ch:=ch) J E
  have Q:t=qs.length->By m ch t≠[]:=fun e=>by
   have V:=headP_range J K o E
   have:∃x,x∈zZ m ch t:=by
    have G:=cand_step (m:=m) (ps:=zC m ch) (us:=ch) O;rw [z,Nat.add_sub_cancel] at G;have hl:(zC m ch).getD qs.length []=a:=by rw [o.ps,Dp,Dx (Dq _)];simp
    rw [hl] at G;by_cases I:a=[]
    ·refine ⟨n,?_⟩;unfold zZ;rw [o.pp,if_pos I,if_neg (by omega),Ep,e,G.1];exact ⟨G.2.1 I,by simp [(cand_range g (K.range g).1 K.psOk.fl O).2.2]⟩
    ·cases D:a.getLast? with
     | none=>exact absurd (List.getLast?_eq_none_iff.1 D) I
     | some x=>
      refine ⟨x,?_⟩;unfold zZ;rw [o.pp,if_neg I,if_pos (by simp;omega),e,Dp,Dx (Dq _)];simp [D]
   obtain ⟨x,D⟩:=this;have:=(Bp d (t:=t) (used:=ch)).2 (RP.base D (V x D).1 (V x D).2);rw [hs];intro e2;rw [e2] at this;cases this
  unfold offB at hcut;rw [Bool.and_eq_false_iff,Bool.not_eq_false',Bool.or_eq_false_iff,DP,DP] at hcut;rcases hcut with hcut | ⟨h5,h6⟩
  ·obtain ⟨x,D,U⟩:=Eu.1 hcut;unfold openT;rw [Eu];exact ⟨x,Ew U,by rw [<-headP_eq o (t:=t) (by omega),<-hs];exact Du D⟩
  ·have e:t=qs.length:=by rw [o.cur] at h6;omega
   exact absurd (Q e) (by simpa using h5)
theorem openC_cmp (h:zL m ch=true):Ay m ch=true:=by
 unfold Ay openB tasksN;unfold zL at h;rw [if_pos h];rfl
theorem proveP_goal {m:MZ} (D:AS m=0):∀(f:Nat) (ch:List Int) (k:Nat),zr m ch->(∀j,j+1<ch.length->Ay m (ch.take (j+1))=true)->(zm m f ch k).1=51->∃c,Goal m c
 | 0,ch,k,_,_,h=>by simp [zm] at h
 | f+1,ch,k,z,K,h=>by
  unfold zm at h
  split at h
  ·rename_i O
   rcases cur_of D z with ⟨G,-⟩ | ⟨-,qs,a,I⟩
   ·refine ⟨ch,z,G,fun j J=>?_⟩;by_cases d:j+1<ch.length
    ·exact K j d
    ·rw [List.take_of_length_le (by omega)];exact openC_cmp G
   ·have:=I.cur;have:=I.lt;omega
  ·split at h
   ·simp at h
   ·split at h
    ·simp at h
    ·rename_i M
     simp only at h
     split at h
     ·simp at h
     ·rename_i L
      have e:zQ m ch=cand m ch:=by unfold zQ;rw [if_pos (okC_of D z)]
      obtain ⟨n,o,k',e2⟩:=kidsR_err _ _ _ L;rw [e] at o;have E:=openC_cut D z M o;refine proveP_goal D f (ch++[n]) k' (.snoc z o) (fun j J=>?_) (e2.trans h);rw [Dz,DR] at J;rw [List.take_append_of_le_length (by omega)];by_cases d:j+1<ch.length
      ·exact K j d
      ·rw [List.take_of_length_le (by omega)];exact E
theorem Cq {m:MZ}:∀(f:Nat) (ch:List Int) (k:Nat),(zm m f ch k).1=0\/(zm m f ch k).1=51\/(zm m f ch k).1=53
 | 0,ch,k=>by simp [zm]
 | f+1,ch,k=>by
  unfold zm
  split
  ·simp
  ·split
   ·simp
   ·split
    ·simp
    ·simp only
     split
     ·simp
     ·rename_i d
      obtain ⟨n,-,k',e2⟩:=kidsR_err _ _ _ d;rw [<-e2];exact Cq f _ _
theorem makeP_search (d:AS m=0) (o:(RS.run m 20000 ⟨[],zL m [],0⟩).done=true) (hf:zL m (RS.run m 20000 ⟨[],zL m [],0⟩).ch=false):(zJ m).1=0\/(zJ m).1=53:=by
 have e:(zJ m).1=(zm m (m.n.toNat+2) [] 0).1:=by unfold zJ;rw [if_pos d]
 rw [e];rcases Cq (m:=m) (m.n.toNat+2) [] 0 with h | h | h
 ·exact .inl h
 ·obtain ⟨c,hG⟩:=proveP_goal d _ [] 0 .nil (fun j z=>by simp at z) h;have:=run_goal (zE.of d) hG 20000 (s:=⟨[],zL m [],0⟩) .nil (.inl ⟨c,rfl⟩) rfl;rw [o,hf] at this;cases this
 ·exact .inr h
theorem addP_errs {ps:List (List Int)} {t:Int} (hL:laidB m ps=true) (G:knownB m t=true) (D:ps.getD t.toNat []=[]):(addP m ps t).err=54\/(((addP m ps t).err=0\/(addP m ps t).err=53)/\(addP m ps t).why=.zero):=by
 obtain ⟨c0,c1,c2,c3⟩:=AU.1 hL;have g:=subM_good (zE.of c0) c1 t.toNat;unfold addP;rw [hL,G,Du D];simp only [Bool.and_self,if_true]
 split
 ·exact .inr ⟨.inl rfl,rfl⟩
 ·unfold searchP
  split
  ·exact .inr ⟨.inr rfl,rfl⟩
  ·rename_i E
   split
   ·exact .inr ⟨.inl rfl,rfl⟩
   ·rename_i o
    have z:(endS m ps t.toNat).done=true:=by simpa using E
    have d:zL (subM m ps t.toNat) (endS m ps t.toNat).ch=false:=by simpa using o
    rcases makeP_search (good_chk g) z d with h3 | h3
    ·rw [if_pos h3];exact .inl rfl
    ·rw [h3,if_neg (by decide)];exact .inr ⟨.inr rfl,rfl⟩
end
section
open Go.RowKit
attribute [local go_sem ↓] Go.wp_at_zero Go.wp_at_succ
theorem box6 (w:World) (a0 a1 a2 a3 a4 a5:Value):zb w (w.alloc (.cells #[a0,a1,a2,a3,a4,a5] 32))/\
  (∀W,zb (w.alloc (.cells #[a0,a1,a2,a3,a4,a5] 32)) W->W.cell? ⟨w.heap.size,0,none⟩=some a0)/\(∀W,zb (w.alloc (.cells #[a0,a1,a2,a3,a4,a5] 32)) W->W.cell? ⟨w.heap.size,1,none⟩=some a1)/\
  (∀W,zb (w.alloc (.cells #[a0,a1,a2,a3,a4,a5] 32)) W->W.cell? ⟨w.heap.size,2,none⟩=some a2)/\(∀W,zb (w.alloc (.cells #[a0,a1,a2,a3,a4,a5] 32)) W->W.cell? ⟨w.heap.size,3,none⟩=some a3)/\
  (∀W,zb (w.alloc (.cells #[a0,a1,a2,a3,a4,a5] 32)) W->W.cell? ⟨w.heap.size,4,none⟩=some a4)/\(∀W,zb (w.alloc (.cells #[a0,a1,a2,a3,a4,a5] 32)) W->W.cell? ⟨w.heap.size,5,none⟩=some a5):=by
 have d:=ze.new w #[a0,a1,a2,a3,a4,a5] 32 rfl;exact ⟨(zb.refl w).alloc _,zb.rule (d.cell (k:=0) rfl),zb.rule (d.cell (k:=1) rfl),zb.rule (d.cell (k:=2) rfl),zb.rule (d.cell (k:=3) rfl),zb.rule (d.cell (k:=4) rfl),zb.rule (d.cell (k:=5) rfl)⟩
theorem zF.parts {w:World} {v:Value} (h:zF w ok v m):∃Af cf Au cu At ct,v=.agg #[.int .i64 m.w,.int .i64 m.h,.int .i64 m.l,.slice Af m.free.length cf,.slice Au m.up.length cu,.slice At m.tasks.length ct]/\
  AO w ok (.slice Af m.free.length cf) m.free/\AR w ok (.slice Au m.up.length cu) m.up/\Bf w ok (.slice At m.tasks.length ct) m.tasks:=by
 obtain ⟨vfr,vup,vts,rfl,hf,D,ht⟩:=h;have d:=hf;have z:=D;have o:=ht;obtain ⟨_,⟨Af,cf,rfl,-⟩,-⟩:=d;obtain ⟨Au,cu,rfl,-⟩:=z;obtain ⟨_,⟨At,ct,rfl,-⟩,-⟩:=o;exact ⟨Af,cf,Au,cu,At,ct,rfl,hf,D,ht⟩
end
section
open Go.RowKit
open Go.ChangeMaps (setBlock)
def entI:List (Int×Int)->Nat->List MapEntry
 | [],_=>[]
 | p :: l,b=>{ key:=.int .i64 p.1,val:=.int .i64 p.2,born:=b } :: entI l (b+1)
def mapObjI (l:List (Int×Int)):Obj:=.map (entI l 0).toArray l.length
def FarIs (w:World) (g:Nat) (l:List (Int×Int)):Prop:=w.heap[g]?=some (mapObjI l)
theorem FarIs.keep {w w':World} {g:Nat} {l:List (Int×Int)} (h:FarIs w g l) (o:zN ok w w') (d:ok g):FarIs w' g l:=(o g d (za h)).trans h
theorem FarIs.below {w w':World} {g:Nat} {l:List (Int×Int)} (h:FarIs w g l) (d:Below w.heap.size w w'):FarIs w' g l:=(d.block g (za h)).trans h
theorem FarIs.new (w:World):FarIs (w.alloc (.map #[] 0)) w.heap.size []:=Ee _ _
open Go.Instr in
end
section
open Go.RowKit
def Que (w:World) (B:Nat) (v:Value) (l:List Int):Prop:=
 (v=.slice none 0 0/\l=[])\/∃g o c cur,v=.slice (some ⟨g,o,none⟩) l.length c/\B<=g/\l.length<=c/\c<=maxLen/\ze w g 3 cur/\o+c<=cur.size/\∀(j:Nat) x,l[j]?=some x->cur[o+j]?=some (.int .i64 x)
theorem Que.nil (w:World) (B:Nat):Que w B (.slice none 0 0) []:=.inl ⟨rfl,rfl⟩
theorem Que.of_own {w:World} {B:Nat} {v:Value} {l:List Int} (h:zt w B v l):Que w B v l:=by
 obtain ⟨I,⟨rfl,h0⟩ | ⟨g,cap,cur,rfl,E,hh,z,d,D,ht⟩⟩:=h
 ·exact .inl ⟨rfl,List.length_eq_zero_iff.1 h0⟩
 ·refine .inr ⟨g,0,cap,cur,rfl,E,z,d,hh,by omega,fun j x G=>?_⟩;have o:(l.map (Value.int .i64))[j]?=some (.int .i64 x):=by rw [Ea,G];rfl
  rw [<-ht,List.getElem?_take] at o
  split at o
  ·rw [Nat.zero_add];simpa using o
  ·cases o
section
variable {w w':World} {B:Nat} {v:Value} {l:List Int} {x:Int}
theorem Que.ge (h:Que w B v l) (d:v.ownBlock=some k):B<=k/\k<w.heap.size:=by
 rcases h with ⟨rfl,-⟩ | ⟨g,o,c,cur,rfl,D,-,-,z,-⟩
 ·cases d
 ·have:g=k:=by simpa [Value.ownBlock] using d
  subst this;exact ⟨D,za z⟩
theorem Que.kept {r:Option Nat} (h:Que w B v l) (J:w.grownBy w' r) (d:∀k,v.ownBlock=some k->r≠some k):Que w' B v l:=by
 rcases h with h | ⟨g,o,c,cur,rfl,D,E,G,z,I⟩
 ·exact .inl h
 ·exact .inr ⟨g,o,c,cur,rfl,D,E,G,(J.block g (za z) (fun e=>d g rfl e.symm)).trans z,I⟩
theorem Que.more (h:Que w B v l) (d:zb w w'):Que w' B v l:=
 h.kept (r:=none) ⟨d.os,d.tape,d.output,d.size,fun i o _=>d.block i o⟩ (fun _ _ e=>by cases e)
theorem Que.slice (h:Que w B v l):∃A c,v=.slice A l.length c/\l.length<=c:=by
 rcases h with ⟨rfl,rfl⟩ | ⟨g,o,c,cur,rfl,-,d,-⟩
 ·exact ⟨none,0,rfl,Dq _⟩
 ·exact ⟨_,c,rfl,d⟩
theorem Que.head (h:Que w B v (x :: l)):∃g o c v',v=.slice (some ⟨g,o,none⟩) (l.length+1) (c+1)/\l.length<=c/\w.cell? ⟨g,o,none⟩=some (.int .i64 x)/\Que w B v' l/\v'.ownBlock=v.ownBlock/\
  (Instr.sliceAt 23 (.slice (some ⟨g,o,none⟩) (l.length+1) (c+1)) (some (.int .i64 1)) none none).run Tryz.prog w=.ok v' w/\(Instr.slice 23 (.slice (some ⟨g,o,none⟩) (l.length+1) (c+1)) (some (.int .i64 1)) none none).run Tryz.prog w=.ok v' w:=by
 rcases h with ⟨-,h⟩ | ⟨g,o,c,cur,rfl,L,M,U,D,V,O⟩
 ·cases h
 ·obtain ⟨c,rfl⟩:∃c',c=c'+1:=⟨c - 1,by simp at M;omega⟩;have z:l.length<=c:=by simpa using M
  have Q:(sizeOf 3).run Tryz.prog w=.ok 1 w:=Tryz.sizeOf3 w
  have d:(Instr.slice 23 (.slice (some ⟨g,o,none⟩) (l.length+1) (c+1)) (some (.int .i64 1)) none none).run Tryz.prog w=.ok (.slice (if c+1=1 then some ⟨g,o,none⟩ else some ⟨g,o+1,none⟩) l.length c) w:=by
   have J:(Instr.sliceBounds true (l.length+1) (c+1) (some (.int .i64 1)) none none).run Tryz.prog w=.ok (1,l.length+1,c+1) w:=by
    unfold Instr.sliceBounds;simp only [Sem.run_bind,Sem.run_pure,Result.andThen_ok];rw [run_sliceBound _ _ _ _ _ (by omega) (by omega)];rfl
   unfold Instr.slice;simp only [Sem.run_bind,run_underlying Tryz.underlying23,Result.andThen_ok,J,Q,Sem.run_pure,Nat.add_sub_cancel,Nat.mul_one]
   split <;> simp [Addr.add]
  refine ⟨g,o,c,_,rfl,z,?_,?_,?_,(run_sliceAt_slice w 23 _ _ _ _ Tryz.underlying23).trans d,d⟩
  ·have:=O 0 x rfl;unfold World.cell?;have E:w.heap[g]?=_:=D;simp only [E];simpa using this
  ·by_cases G:c=0
   ·subst G;have I:l=[]:=List.length_eq_zero_iff.1 (by omega);subst I;exact .inr ⟨g,o,0,cur,rfl,L,Dq _,by omega,D,by omega,fun j y K=>by simp at K⟩
   ·rw [if_neg (by omega)];refine .inr ⟨g,o+1,c,cur,rfl,L,z,by omega,D,by omega,fun j y K=>?_⟩;have:=O (j+1) y (by simpa using K);rw [show o+1+j=o+(j+1) by omega];exact this
  ·split <;> rfl
end
end
section
open Go.RowKit
attribute [local go_sem ↓] Go.wp_at_zero Go.wp_at_succ
theorem freeCells {W:World} (h:AO W ok (.slice Af m.free.length cf) m.free) (hfn:∀f∈m.free,(f.length:Int)=m.n) (ht:t<m.free.length) (h0:0<=n) (O:n<m.n):
  ∃b off b' off' l c',Af=some ⟨b,off,none⟩/\W.cell? ⟨b,off+t,none⟩=some (.slice (some ⟨b',off',none⟩) l c')/\n<(l:Int)/\l<=c'/\m.free.length<=cf/\W.cell? ⟨b',off'+n.toNat,none⟩=some (.bool (zf m t n)):=by
 obtain ⟨vsf,⟨A,c,e,G,M⟩,I⟩:=h;injection e with e1 e2 e3;subst e1 e3;obtain ⟨bf,off3,uf,rfl,_,z,D⟩:=BU M I ht ht;have J:=hfn _ (Dr ht);obtain ⟨A4,c4,rfl,E,L⟩:=D;have o:n.toNat<(m.free[t]).length:=by omega
 obtain ⟨b4,off4,rfl,_,d⟩:=CF L o o;have K:(m.free[t])[n.toNat]=zf m t n:=by simp [zf,ht,o]
 rw [K] at d;exact ⟨bf,off3,b4,off4,_,c4,rfl,z,by omega,E,G,d⟩
structure FreeM (w:World) (ok:Nat->Prop) (gm gt gb gs:Nat) (m:MZ) (t:Nat) (Af:Option Addr) (cf:Nat) (fixed:List (List Int)) (s:List Int):Prop where
 hcf:w.cell? ⟨gm,3,none⟩=some (.slice Af m.free.length cf)
 ct:w.cell? ⟨gt,0,none⟩=some (.int .i64 t)
 cb:w.cell? ⟨gb,0,none⟩=some (.map (some gs))
 fr:AO w ok (.slice Af m.free.length cf) m.free
 set:zu w gs s
 mem:∀x,x∈s↔x∈fixed.flatten
theorem FreeM.ext {w w':World} {gm gt gb gs:Nat} {s:List Int} (h:FreeM w ok gm gt gb gs m t Af cf fixed s) (d:zb w w'):FreeM w' ok gm gt gb gs m t Af cf fixed s:=
 ⟨d.cell h.hcf,d.cell h.ct,d.cell h.cb,h.fr.below d,h.set.below d,h.mem⟩
structure UI (w wr:World) (gs gb:Nat) (s:List Int):Prop where
 ext:zb w wr
 lo:w.heap.size<=gs
 lt:gs<gb
 set:zu wr gs s
 cb:wr.cell? ⟨gb,0,none⟩=some (.map (some gs))
section
variable {w wr w':World} {gs gb:Nat} {s:List Int} {x:Int}
theorem UI.add (h:UI w wr gs gb s) (z:zu w' gs (ins s x)) (d:wr.grownBy w' (some gs)):UI w w' gs gb (ins s x):=
 ⟨h.ext.grown d h.ext.size (fun k o=>by injection o with o;have:=h.lo;omega),h.lo,h.lt,z,
  (DG (w:=wr) (a:=⟨gb,0,none⟩) (d.block gb (zn h.cb) (fun e=>by injection e with e;have:=h.lt;omega))).trans h.cb⟩
theorem UI.new (w:World):UI w ((w.alloc (.map #[] 0)).alloc (.cells #[.map (some w.heap.size)] 151)) w.heap.size (w.heap.size+1) []:=by
 have d:ze ((w.alloc (.map #[] 0)).alloc (.cells #[.map (some w.heap.size)] 151)) (w.heap.size+1) 151 #[.map (some w.heap.size)]:=ze.new _ _ _ (by simp);have o:zb w ((w.alloc (.map #[] 0)).alloc (.cells #[.map (some w.heap.size)] 151)):=((zb.refl w).alloc _).alloc _;exact ⟨o,Dq _,Nat.lt_succ_self _,(zu.new w).below ((zb.refl _).alloc _),d.cell (k:=0) rfl⟩
end
structure PI (w wr:World) (gf:Nat) (F:List (Int×Int)) (v:Value) (todo:List Int):Prop where
 ext:zb w wr
 lo:w.heap.size<=gf
 far:FarIs wr gf F
 que:Que wr (gf+1) v todo
section
variable {w wr w':World} {gf:Nat} {F F':List (Int×Int)} {v v':Value} {todo todo':List Int}
theorem PI.more (h:PI w wr gf F v todo) (d:zb wr w'):PI w w' gf F v todo:=⟨h.ext.trans d,h.lo,h.far.below d,h.que.more d⟩
theorem PI.put (h:PI w wr gf F v todo) (hf:FarIs w' gf F') (o:wr.grownBy w' (some gf)):PI w w' gf F' v todo:=
 ⟨h.ext.grown o h.ext.size (fun k d=>by injection d with d;have:=h.lo;omega),h.lo,hf,h.que.kept o (fun k d e=>by injection e with e;have:=(h.que.ge d).1;omega)⟩
theorem PI.app (h:PI w wr gf F v todo) (z:Que w' (gf+1) v' todo') (d:Hid (wr.grownBy w' v.ownBlock)):PI w w' gf F v' todo':=
 ⟨h.ext.grown d.out h.ext.size (fun k o=>by have:=(h.que.ge o).1;have:=h.lo;omega),h.lo,
  (d.out.block gf (za h.far) (fun e=>by have:=(h.que.ge e.symm).1;omega)).trans h.far,z⟩
theorem PI.lt (h:PI w wr gf F v todo):gf<wr.heap.size:=za h.far
end
structure NL (wk w2 wi:World) (v:Value):Prop where
 same:zN (fun b=>wk.heap.size<=b/\b<w2.heap.size) w2 wi
 ob:∀k,v.ownBlock=some k->k<wk.heap.size\/w2.heap.size<=k
 sz:w2.heap.size<=wi.heap.size
section
variable {wk w2 wi w':World} {v v':Value} {gf:Nat}
theorem NL.start (o:∀k,v.ownBlock=some k->k<wk.heap.size):NL wk w2 w2 v:=⟨zN.refl _ _,fun k d=>.inl (o k d),Dq _⟩
theorem NL.more (h:NL wk w2 wi v) (o:zb wi w'):NL wk w2 w' v:=⟨fun b z d=>(o.block b (DT d h.sz)).trans (h.same b z d),h.ob,Dt h.sz o.size⟩
theorem NL.put (h:NL wk w2 wi v) (z:wi.grownBy w' (some gf)) (D:gf<wk.heap.size):NL wk w2 w' v:=
 ⟨fun b o d=>(z.block b (DT d h.sz) (fun e=>by injection e with e;have:=o.1;omega)).trans (h.same b o d),h.ob,Dt h.sz z.size⟩
theorem NL.app (h:NL wk w2 wi v) (D:Hid (wi.grownBy w' v.ownBlock)) (E:Hid (v'.ownBlock=v.ownBlock\/v'.ownBlock=some wi.heap.size)):NL wk w2 w' v':=
 ⟨fun b o d=>(D.out.block b (DT d h.sz) (fun e=>by have G:=h.ob b e.symm;have:=o.1;have:=o.2;omega)).trans (h.same b o d),
  fun k z=>by
   rcases E.out with e | e
   ·exact h.ob k (e ▸ z)
   ·rw [e] at z;have:k=wi.heap.size:=by simpa using z.symm
    have:=h.sz;omega,Dt h.sz D.out.size⟩
end
theorem zB.ext {w w':World} (h:zB w w'):zb w w':=h.below _
structure CP (w wr:World) (g:Nat) (ps:List (List Int)):Prop where
 ext:zb w wr
 lo:w.heap.size<=g
 row:∃vs:List Value,ze wr g 23 vs.toArray/\vs.length=ps.length/\∀(i:Nat) x,ps[i]?=some x->∃u,vs[i]?=some u/\zk wr (fun b=>b≠g/\w.heap.size<=b) u x
section
variable {w wr w':World} {g:Nat} {ps:List (List Int)}
theorem CP.lt (h:CP w wr g ps):g<wr.heap.size:=by obtain ⟨vs,d,-⟩:=h.row;exact za d
theorem CP.more (h:CP w wr g ps) (d:zb wr w'):CP w w' g ps:=by
 obtain ⟨vs,o,D,he⟩:=h.row;exact ⟨h.ext.trans d,h.lo,vs,o.ext d,D,fun i x G=>by obtain ⟨u,E,z⟩:=he i x G;exact ⟨u,E,z.below d⟩⟩
theorem CP.intss (h:CP w wr g ps) (c:Nat) (z:ps.length<=c):zU wr (fun _=>True) (.slice (some ⟨g,0,none⟩) ps.length c) ps:=by
 obtain ⟨vs,o,G,he⟩:=h.row;refine ⟨vs,⟨_,c,rfl,z,by omega,fun _=>⟨g,0,rfl,trivial,fun j u d=>?_⟩⟩,fun i x E=>by obtain ⟨u,d,D⟩:=he i x E;exact ⟨u,d,D.weaken fun _ _=>trivial⟩⟩;rw [Nat.zero_add];exact o.cell (by simpa using d)
theorem CP.at_ (h:CP w wr g ps) (z:k<ps.length):∃u,wr.cell? ⟨g,k,none⟩=some u/\wr.frozen? ⟨g,k,none⟩=false/\zk wr (fun b=>b≠g/\w.heap.size<=b) u ps[k]:=by
 obtain ⟨vs,d,E,he⟩:=h.row;obtain ⟨u,D,o⟩:=he k _ (Do z);exact ⟨u,d.cell (by simpa using D),d.frozen k,o⟩
theorem CP.set (h:CP w wr g ps) (k:Nat) {u:Value} {x:List Int} (J:zk wr (fun b=>b≠g/\w.heap.size<=b) u x):CP w (wr.setCell ⟨g,k,none⟩ u) g (ps.set k x):=by
 obtain ⟨vs,z,G,he⟩:=h.row;have E:∀{v:Value} {l:List Int},zk wr (fun b=>b≠g/\w.heap.size<=b) v l->zk (wr.setCell ⟨g,k,none⟩ u) (fun b=>b≠g/\w.heap.size<=b) v l:=fun o=>o.keep fun b z _=>DA wr ⟨g,k,none⟩ u b z.1
 refine ⟨h.ext.setCell (p:=⟨g,k,none⟩) h.lo _,h.lo,vs.set k u,?_,by simp [G],fun i y d=>?_⟩
 ·have:=z.set (k:=k) u
  rwa [List.setIfInBounds_toArray] at this
 ·rw [List.getElem?_set] at d⊢;by_cases o:k=i
  ·subst o;rw [if_pos rfl] at d⊢
   split at d
   ·rename_i I
    rw [if_pos (by omega)];injection d with d;subst d;exact ⟨u,rfl,E J⟩
   ·cases d
  ·rw [if_neg o] at d⊢;obtain ⟨v,K,D⟩:=he i y d;exact ⟨v,K,E D⟩
theorem CP.new (w:World) (n:Nat):CP w (w.alloc (.cells (madeCells #[.slice none 0 0] n) 23)) w.heap.size (List.replicate n []):=by
 refine ⟨(zb.refl w).alloc _,Dq _,List.replicate n (.slice none 0 0),?_,by simp,fun i x o=>?_⟩
 ·have:(madeCells #[Value.slice none 0 0] n)=(List.replicate n (Value.slice none 0 0)).toArray:=by
   apply Array.ext';apply List.ext_getElem
   ·simp [madeCells]
   ·intro i z D;simp [madeCells,Nat.mod_one]
  rw [this];exact ze.new _ _ _ rfl
 ·obtain ⟨d,e⟩:=Em.1 o;rw [List.getElem_replicate] at e;subst e;exact ⟨.slice none 0 0,by rw [List.getElem?_replicate,if_pos (by simpa using d)],zk.nil _ _⟩
end
end
end Go.Proofs.YtnmkmhpgnpojbaaGreatDoor
