/- RtGp RtN RtCp RtVf RtVn RtYc RtYd -/
import Derived.Test.YthbjngbhbbkkgaaGreatHUzb
import Derived.Test.YthbjngbhbbkkgaaGreatHUzf
import Derived.Laws.EntriesVeiled
set_option linter.unusedVariables false
set_option linter.unusedSimpArgs false
set_option maxRecDepth 100000
set_option maxHeartbeats 16000000
namespace Go.Proofs.YthbjngbhbbkkgaaGreat
open Go.RowKit
theorem ap_pw {c:Bool} {x:Int} {l:List Int} (h:l.Pairwise (·<·)) (hx:c=true→∀y∈l,y<x):(ap c x l).Pairwise (·<·):=by
 unfold ap;cases c
 ·simpa using h
 ·simp only [if_pos];rw [List.pairwise_append];refine ⟨h,by simp,fun a ha b hb=>?_⟩;rw [List.mem_singleton] at hb;subst hb;exact hx rfl a ha
theorem nextL_pw {m:MZ} (d:Dim m) (k:Int):(zi m k).Pairwise (·<·):=by
 have hw:=d.w1;have hh:=d.h1
 have hW:m.w≤m.w*m.h:=by
  have:=Int.mul_le_mul_of_nonneg_left hh (show 0≤m.w by omega);omega
 have h2:∀{j:Int},0<j % m.h→m.w<m.w*m.h:=by
  intro j hj;have h3:=Int.emod_lt_of_pos j (show 0<m.h by omega);have:=Int.mul_le_mul_of_nonneg_left (show 2≤m.h by omega) (show 0≤m.w by omega);omega
 have h2':∀{j:Int},j % m.h+1<m.h→m.w<m.w*m.h:=by
  intro j hj;have h3:=Int.emod_nonneg j (show m.h≠0 by omega);have:=Int.mul_le_mul_of_nonneg_left (show 2≤m.h by omega) (show 0≤m.w by omega);omega
 unfold zi;refine ap_pw (ap_pw (ap_pw (ap_pw (ap_pw (ap_pw List.Pairwise.nil ?_) ?_) ?_) ?_) ?_) ?_
 ·intro _ y hy;cases hy
 ·intro hc y hy;simp only [mem_ap,Bool.and_eq_true,decide_eq_true_eq,List.not_mem_nil,false_or] at hc hy;have:=h2 hc;omega
 ·intro hc y hy;simp only [mem_ap,Bool.and_eq_true,decide_eq_true_eq,List.not_mem_nil,false_or] at hc hy;have h4:=Int.emod_lt_of_pos k (show 0<m.w by omega);rcases hy with hy | hy <;> omega
 ·intro hc y hy;simp only [mem_ap,Bool.and_eq_true,decide_eq_true_eq,List.not_mem_nil,false_or] at hc hy;rcases hy with (hy | hy) | hy <;> omega
 ·intro hc y hy;simp only [mem_ap,Bool.and_eq_true,decide_eq_true_eq,List.not_mem_nil,false_or] at hc hy;have h5:=Int.emod_nonneg k (show m.w≠0 by omega);rcases hy with ((hy | hy) | hy) | hy <;> omega
 ·intro hc y hy;simp only [mem_ap,Bool.and_eq_true,decide_eq_true_eq,List.not_mem_nil,false_or] at hc hy;have h5:=Int.emod_nonneg k (show m.w≠0 by omega);rcases hy with (((hy | hy) | hy) | hy) | hy
  ·omega
  ·omega
  ·omega
  ·omega
  ·have:=h2' hy.1;omega
end Go.Proofs.YthbjngbhbbkkgaaGreat
namespace Go.Proofs.YthbjngbhbbkkgaaGreat
open Go.RowKit
attribute [local go_sem ↓] Go.wp_at_zero Go.wp_at_succ
theorem Chg.same {X ok:Nat→Prop} {w w':World} (h:Chg X w w') (hd:∀b,ok b→¬ X b):zX ok w w':=fun b hb hlt=>h.block b hlt (hd b hb)
end Go.Proofs.YthbjngbhbbkkgaaGreat
namespace Go.Proofs.YthbjngbhbbkkgaaGreat
open Go.RowKit
theorem cand_pw {m:MZ} (g:zx m) {ch:List Int} (h:zu m ch):(cand m ch).Pairwise (·<·):=by
 cases hc:zae m ch
 ·obtain ⟨qs,p,h1,h2,h3⟩:=ps_form h hc;rcases List.eq_nil_or_concat p with rfl | ⟨q,y,rfl⟩
  ·rw [cand_beg g h1 hc h2];exact (range_pw _).filter _
  ·rw [List.concat_eq_append] at h1;rw [cand_on h1 hc];exact (nextL_pw g.dim y).filter _
 ·rw [cand_cmp hc];exact List.Pairwise.nil
structure Goal (m:MZ) (c:List Int):Prop where
 ch:zu m c
 cmp:zae m c=true
 op:∀k,k<c.length→zaF m (c.take (k+1))=true
def zc2 (ch c:List Int):Prop:=(∃r,c=ch++r)∨∃k,k<ch.length∧k<c.length∧ch.take k=c.take k∧ch.getD k 0<c.getD k 0
theorem aft_le {m:MZ} {ch:List Int} {b x:Int} (hp:(cand m ch).Pairwise (·<·)) (hx:x∈cand m ch) (hb:b<x) (ho:zaF m (ch++[x])=true):∃n,aft m ch b=some n∧n≤x:=by
 unfold aft
 cases hf:(cand m ch).find? fun n=>decide (b<n) && zaF m (ch++[n]) with
 | none=>
  have:=List.find?_eq_none.1 hf x hx;simp [hb,ho] at this
 | some n=>
  refine ⟨n,rfl,?_⟩;obtain ⟨_,l1,l2,h1,h2⟩:=List.find?_eq_some_iff_append.1 hf;rw [h1] at hx hp;rcases List.mem_append.1 hx with h | h
  ·have:=h2 x h;simp [hb,ho] at this
  ·rcases List.mem_cons.1 h with rfl | h
   ·exact Int.le_refl _
   ·have h3:=(List.pairwise_append.1 hp).2.1;have:=(List.pairwise_cons.1 h3).1 x h;omega
theorem notBehind_at {c:List Int} {k:Nat} {n:Int} (hk:k<c.length) (hn:n≤c.getD k 0):zc2 (c.take k++[n]) c:=by
 have hg:c.getD k 0=c[k]:=by rw [List.getD_eq_getElem?_getD,List.getElem?_eq_getElem hk,Option.getD_some]
 have hl:(c.take k).length=k:=by rw [List.length_take];omega
 rcases Int.lt_or_le n (c.getD k 0) with h | h
 ·refine .inr ⟨k,by simp;omega,hk,?_,?_⟩
  ·rw [List.take_append_of_le_length (by omega),List.take_take,Nat.min_self]
  ·have:(c.take k++[n]).getD k 0=n:=by
    rw [List.getD_eq_getElem?_getD,List.getElem?_append_right (by omega),hl,Nat.sub_self];rfl
   rw [this];exact h
 ·have:n=c[k]:=by omega
  subst this;exact .inl ⟨c.drop (k+1),by rw [←List.take_succ_eq_append_getElem hk,List.take_append_drop]⟩
theorem Goal.cand {m:MZ} {c:List Int} (h:Goal m c) {k:Nat} (hk:k<c.length):c.getD k 0∈Go.Proofs.YthbjngbhbbkkgaaGreat.cand m (c.take k)∧zaF m (c.take k++[c.getD k 0])=true:=by
 have hg:c.getD k 0=c[k]:=by rw [List.getD_eq_getElem?_getD,List.getElem?_eq_getElem hk,Option.getD_some]
 rw [hg];exact ⟨h.ch.at hk,by rw [←List.take_succ_eq_append_getElem hk];exact h.op k hk⟩
theorem zcS {m:MZ} (g:zx m) {ch c:List Int} (hG:Goal m c) {k:Nat} (h1:k<ch.length) (h2:k<c.length) (h3:ch.take k=c.take k) (h4:ch.getD k 0<c.getD k 0):∀j,k<j→j≤ch.length→∃ch',backN m ch j=some ch'∧zc2 ch' c
 | 0,h,_=>by omega
 | j+1,hj,hjl=>by
  unfold backN;rcases Nat.lt_or_ge k j with hkj | hkj
  ·split
   ·rename_i n hn
    refine ⟨_,rfl,.inr ⟨k,by simp;omega,h2,?_,?_⟩⟩
    ·rw [List.take_append_of_le_length (by rw [List.length_take];omega),List.take_take,Nat.min_eq_left (by omega)];exact h3
    ·have:(ch.take j++[n]).getD k 0=ch.getD k 0:=by
      rw [List.getD_eq_getElem?_getD,List.getElem?_append_left (by rw [List.length_take];omega),List.getElem?_take_of_lt hkj,←List.getD_eq_getElem?_getD]
     rw [this];exact h4
   ·exact zcS g hG h1 h2 h3 h4 j hkj (by omega)
  ·obtain rfl:j=k:=by omega
   obtain ⟨c1,c2⟩:=hG.cand h2;obtain ⟨n,hn,hle⟩:=aft_le (cand_pw g (hG.ch.take j)) c1 h4 c2;rw [h3,hn];exact ⟨_,rfl,notBehind_at h2 hle⟩
theorem step_notBehind {m:MZ} (g:zx m) {ch c:List Int} (hG:Goal m c) (hch:zu m ch) (hn:zc2 ch c) (hc:zae m ch=false):∃ch',stepC m ch=some ch'∧zc2 ch' c:=by
 unfold stepC;rcases hn with ⟨r,hr⟩ | ⟨k,h1,h2,h3,h4⟩
 ·have hk:ch.length<c.length:=by
   rw [hr,List.length_append]
   cases r with
   | nil=>rw [List.append_nil] at hr;subst hr;rw [hG.cmp] at hc;cases hc
   | cons x r=>simp
  have ht:c.take ch.length=ch:=by rw [hr,List.take_append_of_le_length (Nat.le_refl _),List.take_length]
  obtain ⟨c1,c2⟩:=hG.cand hk;rw [ht] at c1 c2;have hr0:=((zu.snoc hch c1).range g).1 _ (List.mem_append_right _ (List.mem_singleton.2 rfl));obtain ⟨n,hn,hle⟩:=aft_le (cand_pw g hch) c1 (b:=-1) (by omega) c2;rw [hn];refine ⟨_,rfl,?_⟩;have:=notBehind_at hk hle
  rwa [ht] at this
 ·split
  ·rename_i n hn
   refine ⟨_,rfl,.inr ⟨k,by simp;omega,h2,?_,?_⟩⟩
   ·rw [List.take_append_of_le_length (by omega)];exact h3
   ·have:(ch++[n]).getD k 0=ch.getD k 0:=by
     rw [List.getD_eq_getElem?_getD,List.getElem?_append_left h1,←List.getD_eq_getElem?_getD]
    rw [this];exact h4
  ·exact zcS g hG h1 h2 h3 h4 ch.length h1 (Nat.le_refl _)
theorem run_goal {m:MZ} (g:zx m) {c:List Int} (hG:Goal m c):∀(n:Nat) {s:RS},zu m s.ch→zc2 s.ch c→s.done=zae m s.ch→(RS.run m n s).done=zae m (RS.run m n s).ch
 | 0,s,_,_,h=>h
 | n+1,s,h1,h2,h3=>by
  unfold RS.run
  split
  ·exact h3
  ·rename_i hd
   have hc:zae m s.ch=false:=by rw [←h3];simpa using hd
   obtain ⟨ch',h4,h5⟩:=step_notBehind g hG h1 h2 hc;have h6:s.one m=⟨ch',zae m ch',s.steps+1⟩:=by unfold RS.one;rw [h4]
   rw [h6];exact run_goal g hG n (s:=⟨ch',zae m ch',s.steps+1⟩) (stepC_some h1 h4).1 h5 rfl
theorem headP_eq {m:MZ} {ch:List Int} {qs:List (List Int)} {a:List Int} (h:Cur m ch qs a) {t:Nat} (ht:qs.length≤t):zao m ch t=zaU m (zJ m ch) ch t:=by
 have hf:∀n:Int,(!(!ze m t n || decide (n∈ch)))=(ze m t n && !decide (n∈ch)):=fun n=>by cases ze m t n <;> simp
 unfold zao zaU;simp only [hf];rw [h.pp,h.ps];by_cases ha:a=[]
 ·subst ha;rw [if_pos rfl,if_neg (by omega)];by_cases h1:t+1=(qs++[([]:List Int)]).length
  ·have e:t=qs.length:=by simpa using h1
   subst e;rw [if_pos h1,List.getD_eq_getElem?_getD (l:=qs++[[]]),List.getElem?_append_right (Nat.le_refl _)];simp
  ·rw [if_neg h1]
 ·rw [if_neg ha];by_cases h1:t=qs.length
  ·subst h1;have e:(qs++[a]).getD qs.length []=a:=by rw [List.getD_eq_getElem?_getD,List.getElem?_append_right (Nat.le_refl _)];simp
   rw [if_pos (by simp),if_pos (by simp),e]
   cases hl:a.getLast? with
   | none=>exact absurd (List.getLast?_eq_none_iff.1 hl) ha
   | some x=>rfl
  ·rw [if_neg (by simp;omega),if_neg (by simp;omega)]
theorem kidsR_err {f:Int→Nat→Int×PT×Nat}:∀(l:List Int) (k:Nat) (acc:List PT),(zV f l k acc).1≠0→∃n∈l,∃k',(f n k').1=(zV f l k acc).1
 | [],k,acc,h=>absurd rfl h
 | n :: l,k,acc,h=>by
  unfold zV at h⊢;by_cases h0:(f n k).1=0
  ·rw [if_pos h0] at h⊢;obtain ⟨n',hn,k',e⟩:=kidsR_err l _ _ h;exact ⟨n',List.mem_cons_of_mem _ hn,k',e⟩
  ·rw [if_neg h0] at h⊢;exact ⟨n,List.mem_cons_self ..,k,rfl⟩
theorem cutT_none {m:MZ} {ch:List Int} (h:cutT m ch=none) {t:Nat} (h0:zO m ch≤t) (h1:t<m.tasks.length):offB m ch t=false:=by
 unfold cutT at h;have:=List.find?_eq_none.1 h t (List.mem_map.2 ⟨t - zO m ch,List.mem_range.2 (by omega),by omega⟩);simpa using this
theorem makeP_ok {m:MZ} (ht:0<m.tasks.length) (h:(zbi m).1=0):zaT m (zbi m).2=true:=by
 unfold zbi at h⊢
 split at h
 ·rename_i hc
  rw [if_pos hc];obtain ⟨h1,h2,h3⟩:=zcf hc _ [] 0 .nil (by omega) h;unfold zaT;have h4:(zq m (m.n.toNat+2) [] 0).2.1.size≤3000:=by omega
  rw [decide_eq_true hc,decide_eq_true ht,decide_eq_true h4,h1];rfl
 ·rename_i hc;exact absurd h hc
theorem openC_cut {m:MZ} {ch:List Int} {n:Int} (hc:chk m=0) (hi:zu m ch) (h:cutT m ch=none) (hn:n∈cand m ch):zaF m ch=true:=by
 have g:=zx.of hc;have d:=g.dim;rcases cur_of hc hi with ⟨h1,-⟩ | ⟨h1,qs,a,hC⟩
 ·rw [zbo hn] at h1;cases h1
 ·have hlen:(zJ m ch).length=qs.length+1:=by rw [hC.ps];simp
  unfold zaF openB;rw [List.all_eq_true];intro k hk
  have hk2:k<m.tasks.length - qs.length:=by
   unfold tasksN at hk;rw [List.mem_range] at hk
   split at hk <;> omega
  rw [hlen,Nat.add_sub_cancel];obtain ⟨t,ht⟩:∃t,t=qs.length+k:=⟨_,rfl⟩;rw [←ht];have htl:t<m.tasks.length:=by omega
  have hcut:=cutT_none h (t:=t) (by rw [hC.cur];omega) htl;have hs:=sideP_eq (ch:=ch) hc htl
  have hne:t=qs.length→zb6 m ch t≠[]:=fun e=>by
   have hr:=headP_range hc hi hC htl
   have:∃x,x∈zao m ch t:=by
    have h4:=cand_step (m:=m) (ps:=zJ m ch) (us:=ch) hn;rw [hlen,Nat.add_sub_cancel] at h4;have hl:(zJ m ch).getD qs.length []=a:=by rw [hC.ps,List.getD_eq_getElem?_getD,List.getElem?_append_right (Nat.le_refl _)];simp
    rw [hl] at h4;by_cases ha:a=[]
    ·refine ⟨n,?_⟩;unfold zao;rw [hC.pp,if_pos ha,if_neg (by omega),List.mem_filter,e,h4.1];exact ⟨h4.2.1 ha,by simp [(cand_range g (hi.range g).1 hi.psOk.fl hn).2.2]⟩
    ·cases hx:a.getLast? with
     | none=>exact absurd (List.getLast?_eq_none_iff.1 hx) ha
     | some x=>
      refine ⟨x,?_⟩;unfold zao;rw [hC.pp,if_neg ha,if_pos (by simp;omega),e,List.getD_eq_getElem?_getD,List.getElem?_append_right (Nat.le_refl _)];simp [hx]
   obtain ⟨x,hx⟩:=this;have:=(zaP d (t:=t) (used:=ch)).2 (RP.base hx (hr x hx).1 (hr x hx).2);rw [hs];intro e2;rw [e2] at this;cases this
  unfold offB at hcut;rw [Bool.and_eq_false_iff,Bool.not_eq_false',Bool.or_eq_false_iff,decide_eq_false_iff_not,decide_eq_false_iff_not] at hcut;rcases hcut with hcut | ⟨h5,h6⟩
  ·obtain ⟨x,hx,hx2⟩:=List.any_eq_true.1 hcut;unfold openT;rw [List.any_eq_true];exact ⟨x,of_decide_eq_true hx2,by rw [←headP_eq hC (t:=t) (by omega),←hs];exact decide_eq_true hx⟩
  ·have e:t=qs.length:=by rw [hC.cur] at h6;omega
   exact absurd (hne e) (by simpa using h5)
theorem openC_cmp {m:MZ} {ch:List Int} (h:zae m ch=true):zaF m ch=true:=by
 unfold zaF openB tasksN;unfold zae at h;rw [if_pos h];rfl
theorem proveP_goal {m:MZ} (hc:chk m=0):∀(f:Nat) (ch:List Int) (k:Nat),zu m ch→(∀j,j+1<ch.length→zaF m (ch.take (j+1))=true)→(zq m f ch k).1=51→∃c,Goal m c
 | 0,ch,k,_,_,h=>by simp [zq] at h
 | f+1,ch,k,hi,ho,h=>by
  unfold zq at h
  split at h
  ·rename_i h1
   rcases cur_of hc hi with ⟨h2,-⟩ | ⟨-,qs,a,hC⟩
   ·refine ⟨ch,hi,h2,fun j hj=>?_⟩;by_cases hj2:j+1<ch.length
    ·exact ho j hj2
    ·rw [List.take_of_length_le (by omega)];exact openC_cmp h2
   ·have:=hC.cur;have:=hC.lt;omega
  ·split at h
   ·simp at h
   ·split at h
    ·simp at h
    ·rename_i hn
     simp only at h
     split at h
     ·simp at h
     ·rename_i h3
      have e:zM m ch=cand m ch:=by unfold zM;rw [if_pos (okC_of hc hi)]
      obtain ⟨n,hn2,k',e2⟩:=kidsR_err _ _ _ h3;rw [e] at hn2;have hop:=openC_cut hc hi hn hn2;refine proveP_goal hc f (ch++[n]) k' (.snoc hi hn2) (fun j hj=>?_) (e2.trans h);rw [List.length_append,List.length_singleton] at hj;rw [List.take_append_of_le_length (by omega)];by_cases hj2:j+1<ch.length
      ·exact ho j hj2
      ·rw [List.take_of_length_le (by omega)];exact hop
theorem zdd {m:MZ}:∀(f:Nat) (ch:List Int) (k:Nat),(zq m f ch k).1=0∨(zq m f ch k).1=51∨(zq m f ch k).1=53
 | 0,ch,k=>by simp [zq]
 | f+1,ch,k=>by
  unfold zq
  split
  ·simp
  ·split
   ·simp
   ·split
    ·simp
    ·simp only
     split
     ·simp
     ·rename_i h3
      obtain ⟨n,-,k',e2⟩:=kidsR_err _ _ _ h3;rw [←e2];exact zdd f _ _
theorem makeP_search {m:MZ} (hc:chk m=0) (hd:(RS.run m 20000 ⟨[],zae m [],0⟩).done=true) (hf:zae m (RS.run m 20000 ⟨[],zae m [],0⟩).ch=false):(zbi m).1=0∨(zbi m).1=53:=by
 have e:(zbi m).1=(zq m (m.n.toNat+2) [] 0).1:=by unfold zbi;rw [if_pos hc]
 rw [e];rcases zdd (m:=m) (m.n.toNat+2) [] 0 with h | h | h
 ·exact .inl h
 ·obtain ⟨c,hG⟩:=proveP_goal hc _ [] 0 .nil (fun j hj=>by simp at hj) h;have:=run_goal (zx.of hc) hG 20000 (s:=⟨[],zae m [],0⟩) .nil (.inl ⟨c,rfl⟩) rfl;rw [hd,hf] at this;cases this
 ·exact .inr h
theorem addP_refused {m:MZ} {ps:List (List Int)} {t:Int} (h:(zaw m ps t).err=54):chk (zay m ps t.toNat)=0∧subO m ps t=zay m ps t.toNat∧zaT (zay m ps t.toNat) (zaw m ps t).why=true∧(endS m ps t.toNat).done=true∧zae (zay m ps t.toNat) (endS m ps t.toNat).ch=false:=by
 unfold zaw at h⊢
 split at h
 ·rename_i hc
  rw [if_pos hc];rw [Bool.and_eq_true,Bool.and_eq_true,decide_eq_true_eq] at hc;obtain ⟨hL,hkn,h2⟩:=hc;obtain ⟨c0,c1,c2,c3⟩:=zC.1 hL;have hk:=zaf.1 hkn;have g:=zcB (zx.of c0) c1 t.toNat;have hsub:subO m ps t=zay m ps t.toNat:=by unfold subO;rw [hL,hkn];rfl
  have hpos:0<(zay m ps t.toNat).tasks.length:=by
   have:t.toNat∈zat ps t.toNat:=zc8.2 ⟨by omega,zcd.2 (.inl rfl)⟩;simp only [zay,List.length_map];exact List.length_pos_of_mem this
  split at h
  ·simp at h
  ·unfold zac at h⊢
   split at h
   ·simp at h
   ·rename_i hd
    rw [if_neg hd]
    split at h
    ·simp at h
    ·rename_i hcm
     rw [if_neg hcm]
     split at h
     ·rename_i hm
      rw [if_pos hm];exact ⟨zbk g,hsub,makeP_ok hpos hm,by simpa using hd,by simpa using hcm⟩
     ·rename_i hm
      simp only at h;unfold zbi at h;rw [if_pos (zbk g)] at h;rcases zdd (m:=zay m ps t.toNat) ((zay m ps t.toNat).n.toNat+2) [] 0 with h5 | h5 | h5 <;> rw [h5] at h <;> cases h
 ·simp at h
theorem addP_errs {m:MZ} {ps:List (List Int)} {t:Int} (hL:zau m ps=true) (hk:zar m t=true) (h2:ps.getD t.toNat []=[]):(zaw m ps t).err=54∨(((zaw m ps t).err=0∨(zaw m ps t).err=53)∧(zaw m ps t).why=.zero):=by
 obtain ⟨c0,c1,c2,c3⟩:=zC.1 hL;have g:=zcB (zx.of c0) c1 t.toNat;unfold zaw;rw [hL,hk,decide_eq_true h2];simp only [Bool.and_self,if_true]
 split
 ·exact .inr ⟨.inl rfl,rfl⟩
 ·unfold zac
  split
  ·exact .inr ⟨.inr rfl,rfl⟩
  ·rename_i hd
   split
   ·exact .inr ⟨.inl rfl,rfl⟩
   ·rename_i hcm
    have hd':(endS m ps t.toNat).done=true:=by simpa using hd
    have hcm':zae (zay m ps t.toNat) (endS m ps t.toNat).ch=false:=by simpa using hcm
    rcases makeP_search (zbk g) hd' hcm' with h3 | h3
    ·rw [if_pos h3];exact .inl rfl
    ·rw [h3,if_neg (by decide)];exact .inr ⟨.inr rfl,rfl⟩
theorem lensL_all:∀{ks:List PT},(∀k∈ks,k.Lens)→PT.LensL ks
 | [],_=>by unfold PT.LensL;exact True.intro
 | k :: ks,h=>by
  unfold PT.LensL;exact ⟨h k (List.mem_cons_self ..),lensL_all fun x hx=>h x (List.mem_cons_of_mem _ hx)⟩
theorem zch:PT.zero.Lens:=by
 unfold PT.zero PT.Lens;exact ⟨by simp,by simp,lensL_all fun k hk=>absurd hk (List.not_mem_nil)⟩
theorem kidsR_lens {f:Int→Nat→Int×PT×Nat}:∀(l:List Int) (k:Nat) (acc:List PT),(∀n k,(f n k).2.1.Lens)→(∀p∈acc,p.Lens)→(∀p∈(zV f l k acc).2.1,p.Lens)∧(zV f l k acc).2.1.length≤acc.length+l.length
 | [],k,acc,_,ha=>by unfold zV;exact ⟨ha,Nat.le_add_right ..⟩
 | n :: l,k,acc,hf,ha=>by
  unfold zV;by_cases h0:(f n k).1=0
  ·rw [if_pos h0]
   obtain ⟨h1,h2⟩:=kidsR_lens l (f n k).2.2 (acc++[(f n k).2.1]) hf (fun p hp=>by
    rcases List.mem_append.1 hp with hp | hp
    ·exact ha p hp
    ·rw [List.mem_singleton.1 hp];exact hf n k)
   refine ⟨h1,?_⟩;simp only [List.length_append,List.length_cons,List.length_nil] at h2⊢;omega
  ·rw [if_neg h0];exact ⟨fun p hp=>absurd hp (List.not_mem_nil),by simp⟩
theorem sideP_len (m:MZ) (ch:List Int) (t:Nat):(zb6 m ch t).length≤1000:=by
 unfold zb6 zcr
 split
 ·rename_i h
  unfold zaA;refine Nat.le_trans (List.length_filter_le _ _) ?_;have h1:=(zx.of h.1).dim.n1;have h2:m.n=m.w*m.h*m.l:=rfl;simp;omega
 ·simp
theorem candO_len {m:MZ} (hl:Lens m) (ch:List Int):(zM m ch).length≤400000000000:=by
 unfold zM
 split
 ·exact zbR hl ch
 ·simp
theorem proveP_lens {m:MZ} (hl:Lens m):∀(f:Nat) (ch:List Int) (k:Nat),(zq m f ch k).2.1.Lens
 | 0,ch,k=>by unfold zq;exact zch
 | f+1,ch,k=>by
  unfold zq
  split
  ·exact zch
  ·split
   ·exact zch
   ·split
    ·rename_i t _
     show PT.Lens (.node t (zb6 m ch t) []);unfold PT.Lens;have:=sideP_len m ch t;exact ⟨by omega,by simp,lensL_all fun k hk=>absurd hk (List.not_mem_nil)⟩
    ·obtain ⟨h1,h2⟩:=kidsR_lens (f:=fun n k=>zq m f (ch++[n]) k) (zM m ch) (k+1) [] (fun n k=>proveP_lens hl f _ k) (fun p hp=>absurd hp (List.not_mem_nil));have h3:=candO_len hl ch;simp only
     split
     ·show PT.Lens (.node _ [] _);unfold PT.Lens;refine ⟨by simp,?_,lensL_all h1⟩;simp only [List.length_nil] at h2;omega
     ·exact zch
theorem makeP_lens {m:MZ} (hl:Lens m):(zbi m).2.Lens:=by
 unfold zbi
 split
 ·exact proveP_lens hl _ _ _
 ·exact zch
theorem addP_why {m:MZ} {ps:List (List Int)} {t:Int}:(zaw m ps t).why=.zero∨(zaw m ps t).why=(zbi (zay m ps t.toNat)).2:=by
 unfold zaw
 split
 ·split
  ·exact .inl rfl
  ·unfold zac
   split
   ·exact .inl rfl
   ·split
    ·exact .inl rfl
    ·split
     ·exact .inr rfl
     ·exact .inl rfl
 ·exact .inl rfl
theorem addP_lens {m:MZ} (hl:Lens m) {ps:List (List Int)} {t:Int} (hp:ps.length≤20000000000000):(zaw m ps t).why.Lens:=by
 rcases addP_why (m:=m) (ps:=ps) (t:=t) with h | h
 ·rw [h];exact zch
 ·rw [h];exact makeP_lens (zcC hl hp _)
theorem checkP_size {m:MZ} {p:PT} (h:zaT m p=true):p.size≤3000:=by
 unfold zaT at h;simp only [Bool.and_eq_true,decide_eq_true_eq] at h;exact h.2.2.1
theorem laid_nil {m:MZ} (hc:chk m=0):zau m (List.replicate m.tasks.length [])=true:=by
 have hg:∀i,(List.replicate m.tasks.length ([]:List Int)).getD i []=[]:=fun i=>by
  rw [List.getD_eq_getElem?_getD,List.getElem?_replicate]
  split <;> rfl
 refine zC.2 ⟨hc,List.length_replicate ..,fun k _ h=>absurd (hg k) h,fun i=>by rw [hg i];exact List.nodup_nil,fun i j x hx=>?_⟩;rw [hg i] at hx;exact absurd hx (List.not_mem_nil)
theorem laid_all {m:MZ} {ps:List (List Int)} (h:zau m ps=true) (hn:∀k,k<ps.length→ps.getD k []≠[]):zZ m ps=true:=by
 obtain ⟨h0,h1,h2,h3⟩:=zC.1 h;exact zbc.2 ⟨h0,h1,fun t ht=>h2 t ht (hn t ht),h3⟩
def cov (n f k j:Nat):Prop:=∃i,i<k∧(i+f) % n=j
theorem cov_no {n f k:Nat} (hk:k<n):¬ cov n f k ((k+f) % n):=by
 rintro ⟨i,hi,h⟩;have h1:=Nat.sub_mod_eq_zero_of_mod_eq h.symm;rw [show k+f - (i+f)=k - i by omega,Nat.mod_eq_of_lt (by omega)] at h1;omega
theorem cov_all {n f j:Nat} (hj:j<n):cov n f n j:=by
 have hn:0<n:=by omega
 have hm:=Nat.mod_lt f hn;refine ⟨(j+(n - f % n)) % n,Nat.mod_lt _ hn,?_⟩;rw [Nat.mod_add_mod];have h:=Nat.div_add_mod f n;have e:j+(n - f % n)+f=j+n*(1+f / n):=by rw [Nat.mul_add,Nat.mul_one];omega
 rw [e,Nat.add_mul_mod_self_left,Nat.mod_eq_of_lt hj]
structure AllR (m:MZ) (f k:Nat) (ps:List (List Int)):Prop where
 laid:zau m ps=true
 ne:∀j,j<m.tasks.length→(ps.getD j []≠[]↔cov m.tasks.length f k j)
theorem AllR.zero {m:MZ} {f:Nat} (hc:chk m=0):AllR m f 0 (List.replicate m.tasks.length []):=by
 refine ⟨laid_nil hc,fun j hj=>?_⟩
 have hg:(List.replicate m.tasks.length ([]:List Int)).getD j []=[]:=by
  rw [List.getD_eq_getElem?_getD,List.getElem?_replicate]
  split <;> rfl
 rw [hg];exact ⟨fun h=>absurd rfl h,fun ⟨i,hi,_⟩=>absurd hi (Nat.not_lt_zero _)⟩
theorem AllR.len {m:MZ} {f k:Nat} {ps:List (List Int)} (h:AllR m f k ps):ps.length=m.tasks.length:=(zC.1 h.laid).2.1
theorem AllR.empty {m:MZ} {f k:Nat} {ps:List (List Int)} (h:AllR m f k ps) (hk:k<m.tasks.length):ps.getD ((k+f) % m.tasks.length) []=[]:=by
 refine Classical.byContradiction fun hc=>cov_no hk ((h.ne _ (Nat.mod_lt _ (by omega))).1 hc)
theorem AllR.next {m:MZ} {f k:Nat} {ps qs:List (List Int)} {mv:List Int} (h:AllR m f k ps) (hk:k<m.tasks.length) (K:Kept m ps ((k+f) % m.tasks.length) qs mv):AllR m f (k+1) qs:=by
 refine ⟨K.laid,fun j hj=>?_⟩;rw [K.ne j (by rw [h.len];exact hj),zcd,h.ne j hj];constructor
 ·rintro (h1 | ⟨i,hi,h1⟩)
  ·exact ⟨k,Nat.lt_succ_self k,h1.symm⟩
  ·exact ⟨i,by omega,h1⟩
 ·rintro ⟨i,hi,h1⟩;by_cases hik:i=k
  ·subst hik;exact .inl h1.symm
  ·exact .inr ⟨i,by omega,h1⟩
theorem AllR.done {m:MZ} {f:Nat} {ps:List (List Int)} (h:AllR m f m.tasks.length ps):zZ m ps=true:=
 laid_all h.laid fun k hk=>(h.ne k (by rw [←h.len];exact hk)).2 (cov_all (by rw [←h.len];exact hk))
theorem AllR.round {m:MZ} {f k:Nat} {ps:List (List Int)} (h:AllR m f k ps) (hk:k<m.tasks.length) {t:Nat} (ht:t=(k+f) % m.tasks.length):
  (zaw m ps (t:Int)).err=54∨(zaw m ps (t:Int)).err=53∨((zaw m ps (t:Int)).err=0∧AllR m f (k+1) (zaw m ps (t:Int)).ps∧1≤((zaw m ps (t:Int)).ps.getD t []).length∧((zaw m ps (t:Int)).ps.getD t []).length≤300):=by
 have htl:t<m.tasks.length:=by rw [ht];exact Nat.mod_lt _ (by omega)
 have h0:=h.empty hk;rw [←ht] at h0;have hkn:zar m (t:Int)=true:=zaf.2 ⟨(zC.1 h.laid).1,by omega,by omega⟩;rcases addP_errs (t:=(t:Int)) h.laid hkn (by rw [Int.toNat_natCast];exact h0) with h1 | ⟨h1 | h1,-⟩
 ·exact .inl h1
 ·have K:=(addP_kept h1).2;rw [Int.toNat_natCast] at K;have hn:=h.next hk (by rw [←ht];exact K);refine .inr (.inr ⟨h1,hn,?_,?_⟩)
  ·have:=(K.ne t (by rw [h.len];exact htl)).2 (zcd.2 (.inl rfl));exact List.length_pos_iff.2 this
  ·have hlt:t<(zaw m ps (t:Int)).ps.length:=by rw [hn.len];exact htl
   rw [List.getD_eq_getElem?_getD,List.getElem?_eq_getElem hlt];exact laid_lens K.laid _ (List.getElem_mem hlt)
 ·exact .inr (.inl h1)
end Go.Proofs.YthbjngbhbbkkgaaGreat
namespace Go.Proofs.YthbjngbhbbkkgaaGreat
open Go.RowKit
attribute [local go_sem ↓] Go.wp_at_zero Go.wp_at_succ
theorem indexFuncX_calls {ok:Nat→Prop} {v:Value} {l:List Int} (n:FuncId) (caps:Array Value) (p:Int→Bool) (w:World) (h:zf w ok v l) (hl:l.length≤20000000000000)
  (hcf:∀(a:Array Value) (w:World),(callFunc n a).run Tryz.prog w=.ok (.enter n a) w)
  (hp:∀x∈l,∀w1,Ext w w1→Calls Tryz.prog n (#[.int .i64 x]++caps) w1 fun e w'=>e=.returned (.bool (p x))∧Ext w1 w'):
  Calls Tryz.prog 82 #[v,.func (.func n) #[] caps] w fun e w'=>∃r:Int,e=.returned (.int .i64 r)∧(0≤r↔l.any p=true)∧-1≤r∧Ext w w':=by
 obtain ⟨A,c,rfl,hc,hr⟩:=h;have HR:=zh hr;clear hr;have HP:=zh hp;clear hp
 go_enter Tryz.func82,Tryz.ntmps82
 go_wp2_with fail
 go_loopw [8] (fun i wr=>∃k:Nat,k≤l.length∧i=.int .i64 k∧Hid ((l.take k).any p=false)∧Hid (Ext w wr)) (fun i _=>l.length - (intOf i).toNat)
 case atStart=>exact ⟨0,Nat.zero_le _,rfl,by simp [Hid],Ext.refl _⟩
 case round=>
  obtain ⟨k,hk,rfl,hn,hd⟩:=hrel;by_cases hlt:k<l.length
  ·obtain ⟨b,off,rfl,_,hcell⟩:=zt (HR.out.keep (zX.of_below hd.out)) hlt hlt;obtain ⟨x,hx⟩:∃x,x=l[k]:=⟨_,rfl⟩;rw [←hx] at hcell;have hxl:x∈l:=by rw [hx];exact List.getElem_mem _
   have hsucc:=zh (za3 p hlt);rw [←hx] at hsucc;clear hx;have hcall:=zh (HP.out x hxl wr hd.out);by_cases hpx:p x=true
   ·go_wp2_with fail
    refine hcall.out.mono ?_;rintro e w1 ⟨rfl,hd1⟩;rw [hpx];have HD1:=zh (hd.out.trans hd1);clear hd1;have HPX:=zh hpx;clear hpx
    go_wp2_with fail
    go_ret;refine ⟨_,rfl,⟨fun _=>?_,fun _=>by omega⟩,by omega,HD1.out⟩;rw [List.any_eq_true];exact ⟨x,hxl,HPX.out⟩
   ·have hpf:p x=false:=by simpa using hpx
    clear hpx
    go_wp2_with fail
    refine hcall.out.mono ?_;rintro e w1 ⟨rfl,hd1⟩;rw [hpf];have HD1:=zh (hd.out.trans hd1);clear hd1;have HPX:=zh hpf;clear hpf
    go_wp2_with fail
    go_roundw
    case rel=>exact ⟨k+1,by omega,by go_num,by
     show _=false;rw [hsucc.out,hn.out,HPX.out];rfl,HD1⟩
    case measure=>simp [intOf];omega
  ·obtain rfl:k=l.length:=by omega
   go_wp2;go_ret;have h:=hn.out;rw [List.take_length] at h;refine ⟨_,rfl,⟨fun h'=>by omega,fun h'=>?_⟩,by omega,hd.out⟩;rw [h] at h'
   cases h'
theorem zbq {ok:Nat→Prop} {v:Value} {l:List (Int)} (n:FuncId) (caps:Array Value) (p:Int→Bool) (w:World) (h:zf w ok v l) (hl:l.length≤20000000000000) (hcf:∀(a:Array Value) (w:World),(callFunc n a).run Tryz.prog w=.ok (.enter n a) w)
  (hp:∀x∈l,∀w1,Ext w w1→Calls Tryz.prog n (#[.int .i64 x]++caps) w1 fun e w'=>e=.returned (.bool (p x))∧Ext w1 w'):
  Calls Tryz.prog 54 #[v,.func (.func n) #[] caps] w fun e w'=>e=.returned (.bool (l.any p))∧Ext w w':=by
 have H:=zh (indexFuncX_calls n caps p w h hl hcf hp);clear hp;obtain ⟨A,c,rfl,hc,hr⟩:=h;clear hr
 go_enter Tryz.func54,Tryz.ntmps54
 go_wp2_with fail
 refine H.out.mono ?_;rintro e w1 ⟨r,rfl,hr,hr1,hd⟩;have HR:=zh hr;clear hr;have HD:=zh hd;clear hd
 go_wp2_with fail
 go_ret;refine ⟨zd ?_,HD.out⟩;rw [Bool.eq_iff_iff,decide_eq_true_iff];exact HR.out
structure CutV (w:World) (ok okp:Nat→Prop) (g2 gp go:Nat) (m:MZ) (f u ts vc vp:Value) (ch:List Int) (t:Int) (tk:Nat) (vs:Value) (s:List Int):Prop where
 st:PSt w ok m f u ts vc vp ch
 c0:w.cell? ⟨g2,0,none⟩=some (.int .i64 m.w)
 c1:w.cell? ⟨g2,1,none⟩=some (.int .i64 m.h)
 c2:w.cell? ⟨g2,2,none⟩=some (.int .i64 m.l)
 c3:w.cell? ⟨g2,3,none⟩=some f
 c4:w.cell? ⟨g2,4,none⟩=some u
 c5:w.cell? ⟨g2,5,none⟩=some ts
 c6:w.cell? ⟨g2,6,none⟩=some vc
 c7:w.cell? ⟨g2,7,none⟩=some vp
 c8:w.cell? ⟨g2,8,none⟩=some (.int .i64 t)
 p0:w.cell? ⟨gp,0,none⟩=some (.int .i64 tk)
 p1:w.cell? ⟨gp,1,none⟩=some vs
 sd:zf w okp vs s
 o0:w.cell? ⟨go,0,none⟩=some (.func (.func 115) #[] #[.pointer (some ⟨gp,0,none⟩)])
theorem CutV.more {w w':World} {ok okp:Nat→Prop} {g2 gp go:Nat} {m:MZ} {f u ts vc vp:Value} {ch:List Int} {t:Int} {tk:Nat} {vs:Value} {s:List Int} (h:CutV w ok okp g2 gp go m f u ts vc vp ch t tk vs s) (hE:Ext w w'):CutV w' ok okp g2 gp go m f u ts vc vp ch t tk vs s:=
 ⟨h.st.more hE,hE.cell h.c0,hE.cell h.c1,hE.cell h.c2,hE.cell h.c3,hE.cell h.c4,hE.cell h.c5,hE.cell h.c6,hE.cell h.c7,hE.cell h.c8,hE.cell h.p0,hE.cell h.p1,h.sd.below hE,hE.cell h.o0⟩
theorem cut1_calls {ok:Nat→Prop} {gp:Nat} {vs:Value} {s:List Int} (x:Int) (w:World) (h1:w.cell? ⟨gp,1,none⟩=some vs) (hs:zf w ok vs s) (hl:s.length≤20000000000000):
  Calls Tryz.prog 115 #[.int .i64 x,.pointer (some ⟨gp,0,none⟩)] w fun e w'=>e=.returned (.bool (!decide (x∈s)))∧w=w':=by
 have HI:=zh hs;obtain ⟨As,cs,rfl,-,-⟩:=hs
 go_enter Tryz.func115,Tryz.ntmps115
 go_wp2_with fail
 refine (zv x w HI.out hl).mono ?_;rintro e w9 ⟨rfl,rfl⟩
 go_wp2_with fail
 go_ret;exact ⟨rfl,rfl⟩
theorem cut21_calls {ok okp:Nat→Prop} {g2 gp go:Nat} {m:MZ} {f u ts vc vp:Value} {ch:List Int} {t:Int} {tk:Nat} {vs:Value} {s:List Int} (x:Int) (w:World) (h:CutV w ok okp g2 gp go m f u ts vc vp ch t tk vs s) (g:zx m) (hcl:ch.length≤20000000000000) (htk:tk<m.free.length) (h0:0≤x) (h1:x<m.n) (hsl:s.length≤20000000000000):
  Calls Tryz.prog 118 #[.int .i64 x,.pointer (some ⟨g2,0,none⟩),.pointer (some ⟨gp,0,none⟩),.pointer (some ⟨go,0,none⟩)] w fun e w'=>e=.returned (.bool ((ze m tk x && !decide (x∈ch)) && !decide (x∈s)))∧Ext w w':=by
 have HO:=zh (popen_calls t tk x w h.st g hcl htk h0 h1);have H1:Hid (∀w9,Ext w w9→Calls Tryz.prog 115 #[.int .i64 x,.pointer (some ⟨gp,0,none⟩)] w9 fun e w'=>e=.returned (.bool (!decide (x∈s)))∧w9=w'):=fun w9 h9=>cut1_calls x w9 (h9.cell h.p1) (h.sd.below h9) hsl
 obtain ⟨c0,c1,c2,c3,c4,c5,c6,c7,c8,p0,p1,o0⟩:=(⟨h.c0,h.c1,h.c2,h.c3,h.c4,h.c5,h.c6,h.c7,h.c8,h.p0,h.p1,h.o0⟩:_∧_∧_∧_∧_∧_∧_∧_∧_∧_∧_∧_);clear h htk h0 h1 g hcl;unfold stv at HO;generalize (ze m tk x && !decide (x∈ch))=b at HO⊢;generalize (!decide (x∈s))=d at H1⊢
 go_enter Tryz.func118,Tryz.ntmps118
 go_wp2_with fail
 refine HO.out.mono ?_;rintro e w1 ⟨rfl,hE1⟩;have o1:=hE1.cell o0;clear c0 c1 c2 c3 c4 c5 c6 c7 c8 p0 p1 o0 HO
 cases b with
 | false=>
  go_wp2_with fail
  go_ret;exact ⟨rfl,hE1⟩
 | true=>
  go_wp2_with fail
  refine (H1.out w1 hE1).mono ?_;rintro e w2 ⟨rfl,rfl⟩
  go_wp2_with fail
  go_ret;exact ⟨by simp,hE1⟩
theorem cut2_calls {ok okp:Nat→Prop} {g2 gp go:Nat} {m:MZ} {f u ts vc vp:Value} {ch:List Int} {t:Int} {tk:Nat} {vs:Value} {s:List Int} (x:Int) (w:World) (h:CutV w ok okp g2 gp go m f u ts vc vp ch t tk vs s) (g:zx m) (hl:Lens m) (hcl:ch.length≤20000000000000) (htk:tk<m.free.length) (hsl:s.length≤20000000000000):
  Calls Tryz.prog 117 #[.int .i64 x,.pointer (some ⟨g2,0,none⟩),.pointer (some ⟨gp,0,none⟩),.pointer (some ⟨go,0,none⟩)] w fun e w'=>e=.returned (.bool ((zap m x).any fun k=>(ze m tk k && !decide (k∈ch)) && !decide (k∈s)))∧Ext w w':=by
 have H:=zh h;have HN:=zh (zcy x w h.st.maze hl)
 have HC:Hid (∀w9 v9,Ext w w9→zf w9 (fun _=>True) v9 (zap m x)→Calls Tryz.prog 54 #[v9,.func (.func 118) #[] #[.pointer (some ⟨g2,0,none⟩),.pointer (some ⟨gp,0,none⟩),.pointer (some ⟨go,0,none⟩)]] w9 fun e w'=>e=.returned (.bool ((zap m x).any fun k=>(ze m tk k && !decide (k∈ch)) && !decide (k∈s)))∧Ext w9 w'):=fun w9 v9 h9 hv=>
  zbq 118 _ _ w9 hv (by have:=nextO_len m x;omega) (zad Tryz.func118 rfl rfl) fun y hy w8 h8=>by
   have hr:=nextO_rng g hy;exact cut21_calls y w8 (H.out.more (h9.trans h8)) g hcl htk hr.1 hr.2 hsl
 obtain ⟨c0,c1,c2,c3,c4,c5⟩:=(⟨h.c0,h.c1,h.c2,h.c3,h.c4,h.c5⟩:_∧_∧_∧_∧_∧_);clear h g hcl htk hl;generalize hR:((zap m x).any fun k=>(ze m tk k && !decide (k∈ch)) && !decide (k∈s))=R at HC⊢;clear hR
 go_enter Tryz.func117,Tryz.ntmps117
 go_wp2_with fail
 refine HN.out.mono ?_;rintro e w1 ⟨v1,rfl,hM⟩;have HE1:=zh hM.ext;have HC1:=zh (HC.out w1 v1 hM.ext (hM.ints.weaken fun _ _=>trivial));obtain ⟨A1,k1,rfl,-⟩:=hM.slice;clear hM HC HN H c0 c1 c2 c3 c4 c5
 go_wp2_with fail
 refine HC1.out.mono ?_;rintro e w2 ⟨rfl,hE2⟩
 go_wp2_with fail
 go_ret;exact ⟨rfl,HE1.out.trans hE2⟩
theorem step_last {N:Int} {tg s:List Int} {k:Nat} (hok:∀j,j<k→zbm N tg s j):zbm N tg s k↔((-1:Int) :: s).getD k 0<s.getD k 0∧s.getD k 0<N∧s.getD k 0∉tg:=by
 unfold zbm
 cases k with
 | zero=>
  rw [List.getD_cons_zero];constructor
  ·rintro ⟨h1,h2,-,h4⟩;exact ⟨by omega,h2,h4⟩
  ·rintro ⟨h1,h2,h3⟩;exact ⟨by omega,h2,fun h=>by omega,h3⟩
 | succ k=>
  rw [List.getD_cons_succ];have h0:=(hok k (by omega)).1;constructor
  ·rintro ⟨h1,h2,h3,h4⟩;exact ⟨h3 (by omega),h2,h4⟩
  ·rintro ⟨h1,h2,h3⟩;exact ⟨by omega,h2,fun _=>h1,h3⟩
theorem wall_any (m:MZ) (ch:List Int) (t:Nat) (s:List Int):wallB m ch t s=!(s.any fun n=>(zap m n).any fun k=>(ze m t k && !decide (k∈ch)) && !decide (k∈s)):=by
 unfold wallB;rw [List.not_any_eq_all_not];congr 1;funext n;rw [List.not_any_eq_all_not];congr 1;funext k
 cases (ze m t k && !decide (k∈ch)) <;> simp
theorem pcut_calls {ok okp:Nat→Prop} {f u ts vc vp vpr:Value} {m:MZ} {ch:List Int} {p:PT} (w:World) (h:PSt w ok m f u ts vc vp ch) (hl:Lens m) (hc:chk m=0) (hi:zu m ch) (hp:PrV w okp vpr p) (hps:p.side.length≤20000000000000):
  Calls Tryz.prog 91 #[stv m f u ts vc vp (zO m ch),vpr] w fun e w'=>e=.returned (.bool (cutB m ch p.task p.side p.kids.length))∧Ext w w':=by
 have H:=zh h;have HL:=zh hl;have HC:=zh hc;have HI:=zh hi;have G:=zh (zx.of hc);have hcl:=(zaq hc hi).2.2.1;obtain ⟨Af,cf,Au,cu,At,ct,Ac,cc,Ap,cp,rfl,rfl,rfl,rfl,rfl,-,hts⟩:=h.parts;have HTS:=zh hts;obtain ⟨As,cs,Ak,ck,rfl,hside⟩:=hp.form;have HSD:=zh hside;have htl:=hl.ts;clear h hl hc hi hp hts;obtain ⟨R,hR⟩:∃R,R=cutB m ch p.task p.side p.kids.length:=⟨_,rfl⟩;rw [←hR];have HRR:=zh hR;obtain ⟨tk,htk⟩:∃tk,tk=p.task:=⟨_,rfl⟩;obtain ⟨s,hs⟩:∃s,s=p.side:=⟨_,rfl⟩;obtain ⟨nk,hnk⟩:∃nk,nk=p.kids.length:=⟨_,rfl⟩;rw [←htk,←hs,←hnk] at HRR;rw [←hs] at HSD hside hps;rw [←htk,←hs,←hnk];clear hR htk hs hnk;obtain ⟨c,hcc⟩:∃c,c=zO m ch:=⟨_,rfl⟩;rw [←hcc];have HCU:=zh hcc;obtain ⟨PL,hPLL⟩:∃PL,PL=(zn m ch).length:=⟨_,rfl⟩;rw [←hPLL] at H⊢;clear hcc hPLL;have HRS:=zh (show zY w okp 1 As s.length (s.map (Value.int .i64)) from by obtain ⟨A',c',e,-,h⟩:=HSD.out;injection e with e1 e2 e3;rw [e1];exact h);clear hside;unfold stv
 go_enter Tryz.func91,Tryz.ntmps91
 go_upto_region 1 with fail;obtain ⟨hb1,r0,r1,r2,r3,r4,r5,r6,r7,r8⟩:=box9 w (.int .i64 m.w) (.int .i64 m.h) (.int .i64 m.l) (.slice Af m.free.length cf) (.slice Au m.up.length cu) (.slice At m.tasks.length ct) (.slice Ac ch.length cc) (.slice Ap PL cp) (.int .i64 c);have hs0:(w.alloc (.cells #[.int .i64 m.w,.int .i64 m.h,.int .i64 m.l,.slice Af m.free.length cf,.slice Au m.up.length cu,.slice At m.tasks.length ct,.slice Ac ch.length cc,.slice Ap PL cp,.int .i64 c] 103)).heap.size=w.heap.size+1:=by simp
 generalize w.alloc (.cells #[.int .i64 m.w,.int .i64 m.h,.int .i64 m.l,.slice Af m.free.length cf,.slice Au m.up.length cu,.slice At m.tasks.length ct,.slice Ac ch.length cc,.slice Ap PL cp,.int .i64 c] 103)=w0 at hb1 r0 r1 r2 r3 r4 r5 r6 r7 r8 hs0⊢;obtain ⟨hb2,p0,p1,p2⟩:=box3 w0 (.int .i64 tk) (.slice As s.length cs) (.slice Ak nk ck);generalize w0.alloc (.cells #[.int .i64 tk,.slice As s.length cs,.slice Ak nk ck] 37)=w1 at hb2 p0 p1 p2⊢;rw [hs0] at p0 p1 p2;obtain ⟨gm,hgm⟩:∃gm,gm=w.heap.size:=⟨_,rfl⟩;rw [←hgm] at r0 r1 r2 r3 r4 r5 r6 r7 r8 p0 p1 p2⊢;have HB2:=zh hb2;have HW1:=zh (hb1.trans hb2);have r0:=fun W h=>r0 W (HB2.out.trans h)
 have r1:=fun W h=>r1 W (HB2.out.trans h)
 have r2:=fun W h=>r2 W (HB2.out.trans h)
 have r3:=fun W h=>r3 W (HB2.out.trans h)
 have r4:=fun W h=>r4 W (HB2.out.trans h)
 have r5:=fun W h=>r5 W (HB2.out.trans h)
 have r6:=fun W h=>r6 W (HB2.out.trans h)
 have r7:=fun W h=>r7 W (HB2.out.trans h)
 have r8:=fun W h=>r8 W (HB2.out.trans h)
 clear hgm hb1 hb2 hs0;have hx:Ext w1 w1:=Ext.refl w1;obtain ⟨bad,hbad⟩:∃bad:Bool,bad=decide (tk<c∨(m.tasks.length:Int)≤tk∨(tk=c∧s=[])∨nk≠0):=⟨_,rfl⟩;have HBAD:=zh hbad;clear hbad;go_cut [41] (fun v wx=>v=.bool bad∧w1=wx)
 case first=>
  by_cases h1:tk<(c:Int)
  ·have HB:Hid (bad=true):=by (show _=_);rw [HBAD.out];exact decide_eq_true (.inl h1)
   go_wp2_with fail
   go_meet;exact ⟨by rw [HB.out],rfl⟩
  ·by_cases h2:(m.tasks.length:Int)≤tk
   ·have HB:Hid (bad=true):=by (show _=_);rw [HBAD.out];exact decide_eq_true (.inr (.inl h2))
    go_wp2_with fail
    go_meet;exact ⟨by rw [HB.out],rfl⟩
   ·by_cases h3:tk=(c:Int)
    ·have h3':(tk==(c:Int))=true:=by rw [beq_iff_eq];exact h3
     by_cases h4:s=[]
     ·have HB:Hid (bad=true):=by (show _=_);rw [HBAD.out];exact decide_eq_true (.inr (.inr (.inl ⟨h3,h4⟩)))
      have h4':((s.length:Int)==0)=true:=by rw [h4];rfl
      clear h3 h4
      go_wp2_with fail
      go_meet;exact ⟨by rw [HB.out],rfl⟩
     ·have HB:Hid (bad=decide (0<nk)):=by
       (show _=_)
       rw [HBAD.out,decide_eq_decide];constructor
       ·rintro (h | h | h | h)
        ·exact absurd h h1
        ·exact absurd h h2
        ·exact absurd h.2 h4
        ·omega
       ·intro h;exact .inr (.inr (.inr (by omega)))
      have h4':((s.length:Int)==0)=false:=by
       rw [beq_eq_false_iff_ne];intro h;exact h4 (List.eq_nil_of_length_eq_zero (by omega))
      clear h3 h4
      go_wp2_with fail
      go_meet;refine ⟨?_,rfl⟩;rw [HB.out]
      all_goals (first | rfl | (congr 1;done) | (congr 1;rw [decide_eq_decide];omega))
    ·have h3':(tk==(c:Int))=false:=by rw [beq_eq_false_iff_ne];exact h3
     have HB:Hid (bad=decide (0<nk)):=by
      (show _=_)
      rw [HBAD.out,decide_eq_decide];constructor
      ·rintro (h | h | h | h)
       ·exact absurd h h1
       ·exact absurd h h2
       ·exact absurd h.1 h3
       ·omega
      ·intro h;exact .inr (.inr (.inr (by omega)))
     clear h3
     go_wp2_with fail
     go_meet;refine ⟨?_,rfl⟩;rw [HB.out]
     all_goals (first | rfl | (congr 1;done) | (congr 1;rw [decide_eq_decide];omega))
 case rest=>
  obtain ⟨rfl,rfl⟩:=hcut
  cases bad with
  | true=>
   have HF:Hid (R=false):=by
    (show _=_)
    have:=of_decide_eq_true HBAD.out.symm;rw [HCU.out] at this;rw [HRR.out];unfold cutB;rw [if_pos this]
   go_wp2_with fail
   go_ret;exact ⟨zd HF.out.symm,HW1.out⟩
  | false=>
   have hnb:=of_decide_eq_false HBAD.out.symm
   have HF:Hid (R=(incB m.n (-1) s && (!(s.any fun n=>decide (n∈(m.tasks.getD tk.toNat ([],[])).2)) && ((zao m ch tk.toNat).all (fun n=>decide (n∈s)) && wallB m ch tk.toNat s)))):=by
    (show _=_)
    have:=hnb;rw [HCU.out] at this;rw [HRR.out];unfold cutB;rw [if_neg this]
   obtain ⟨t,ht⟩:∃t:Nat,tk=t:=⟨tk.toNat,by omega⟩;subst ht;rw [Int.toNat_natCast] at HF;have htl2:t<m.tasks.length:=by omega
   have HTL:=zh htl2;have k1:(t:Int)<(m.tasks.length:Int):=by omega
   have k0:(0:Int)≤(t:Int):=by omega
   clear hnb HBAD HRR;have hn1:=G.out.dim.n1;have hlay:=G.out.dim.layer;have hwm1:IntKind.i64.wrap (m.w*m.h)=m.w*m.h:=by rw [IntKind.wrap_i64];omega
   have hwm2:IntKind.i64.wrap (m.w*m.h*m.l)=m.w*m.h*m.l:=by rw [IntKind.wrap_i64];omega
   have HSI:Hid ((incB m.n (-1) s && !(s.any fun n=>decide (n∈(m.tasks.getD t ([],[])).2)))=true↔∀i,i<s.length→zbm m.n (m.tasks.getD t ([],[])).2 s i):=side_iff;obtain ⟨bt,offt,sn,u1,u2,rfl,-,-,-,hct2,-,hi2⟩:=zam HTS.out HTL.out;have hto:=(HL.out.tl _ (List.getElem_mem HTL.out)).2;have HTG:Hid ((m.tasks.getD t ([],[])).2=(m.tasks[t]'HTL.out).2):=by (show _=_);rw [List.getD_eq_getElem?_getD,List.getElem?_eq_getElem HTL.out];rfl
   obtain ⟨tg,htg⟩:∃tg,tg=(m.tasks[t]'HTL.out).2:=⟨_,rfl⟩;rw [←htg] at hi2 hto HTG;rw [HTG.out] at HSI HF;have HTO:=zh (hi2.below HW1.out);obtain ⟨Atg,ctg,rfl,-,-⟩:=hi2;have rtg:=Ext.rule (HW1.out.cell hct2);clear htg hct2
   go_wp2_with fail
   go_loopw [5,45] (fun lv i wr=>∃k:Nat,k≤s.length∧i=.int .i64 k∧lv=.int .i64 (((-1:Int) :: s).getD k 0)∧Hid (∀j,j<k→zbm m.n tg s j)∧w1=wr) (fun _ i _=>s.length - (intOf i).toNat)
   case atStart=>exact ⟨0,Nat.zero_le _,rfl,rfl,fun j hj=>by omega,rfl⟩
   case round=>
    obtain ⟨k,hk,rfl,rfl,hok,rfl⟩:=hrel;by_cases hlt:k<s.length
    ·have hltI:(k:Int)<(s.length:Int):=by omega
     have kk0:(0:Int)≤(k:Int):=by omega
     obtain ⟨bs,offs,rfl,-,hcx⟩:=zt HRS.out hlt hlt;have hgx:s.getD k 0=s[k]:=by rw [List.getD_eq_getElem?_getD,List.getElem?_eq_getElem hlt];rfl
     have hst:=step_last hok.out;have hnx:((-1:Int) :: s).getD (k+1) 0=s.getD k 0:=List.getD_cons_succ ..;obtain ⟨x,hxx⟩:∃x,x=s[k]:=⟨_,rfl⟩;rw [←hxx] at hcx hgx;rw [hgx] at hst hnx;obtain ⟨y,hyy⟩:∃y,y=((-1:Int) :: s).getD k 0:=⟨_,rfl⟩;rw [←hyy] at hst⊢;have HNX:=zh hnx;have rx:=Ext.rule (HW1.out.cell hcx)
     obtain ⟨ob,hob⟩:∃ob:Bool,ob=true↔zbm m.n tg s k:=by
      by_cases h:zbm m.n tg s k
      ·exact ⟨true,by simp [h]⟩
      ·exact ⟨false,by simp [h]⟩
     have HOB:Hid (ob=true↔y<x∧x<m.n∧x∉tg):=hob.trans hst;have HOB2:=zh hob;clear hcx hgx hxx hob hst hnx hyy;go_upto_region 7 with fail;go_cut [78] (fun v wx=>v=.bool (!ob)∧w1=wx)
     case first=>
      by_cases h1:x≤y
      ·have HB:Hid (ob=false):=by (show _=_);rw [←Bool.not_eq_true,HOB.out];omega
       go_wp2_with fail
       go_meet;exact ⟨by rw [HB.out];rfl,rfl⟩
      ·by_cases h2:m.w*m.h*m.l≤x
       ·have HB:Hid (ob=false):=by (show _=_);rw [←Bool.not_eq_true,HOB.out];unfold MZ.n;omega
        go_wp2_with fail
        go_meet;exact ⟨by rw [HB.out];rfl,rfl⟩
       ·have HB:Hid (ob=!decide (x∈tg)):=by
         (show _=_)
         rw [Bool.eq_iff_iff,HOB.out,Bool.not_eq_true',decide_eq_false_iff_not];exact ⟨fun h=>h.2.2,fun h=>⟨by omega,by unfold MZ.n;omega,h⟩⟩
        go_wp2_with fail
        refine (zv x w1 HTO.out (by omega)).mono ?_;rintro e w9 ⟨rfl,rfl⟩
        go_wp2_with fail
        go_meet;exact ⟨by rw [HB.out];simp,rfl⟩
     case rest=>
      obtain ⟨rfl,rfl⟩:=hcut
      cases ob with
      | false=>
       have HFF:Hid (R=false):=by
        (show _=_)
        have h:¬ ∀i,i<s.length→zbm m.n tg s i:=fun h=>absurd (HOB2.out.2 (h k hlt)) (by simp)
        rw [HF.out,←Bool.and_assoc,Bool.eq_false_iff.2 (fun h2=>h (HSI.out.1 h2)),Bool.false_and]
       go_wp2_with fail
       go_ret;exact ⟨zd HFF.out.symm,HW1.out⟩
      | true=>
       have hok':Hid (∀j,j<k+1→zbm m.n tg s j):=fun j hj=>by
        rcases Nat.lt_or_ge j k with h | h
        ·exact hok.out j h
        ·obtain rfl:j=k:=by omega
         exact HOB2.out.1 rfl
       go_wp2_with fail
       go_roundw
       case rel=>exact ⟨k+1,by omega,by go_num,by rw [HNX.out],hok',trivial⟩
       case measure=>simp [intOf];omega
    ·obtain rfl:k=s.length:=by omega
     have HF2:Hid (R=((zao m ch t).all (fun n=>decide (n∈s)) && wallB m ch t s)):=by
      (show _=_)
      rw [HF.out,←Bool.and_assoc,HSI.out.2 hok.out,Bool.true_and]
     clear hok HF HSI;have HHL:=zh (headP_le HL.out (ch:=ch) HTL.out);generalize ((-1:Int) :: s).getD s.length 0=lst;go_upto_region 12 with fail;have hBg:=Blk.new w1 #[.func (.func 115) #[] #[.pointer (some ⟨gm+1,0,none⟩)]] 62 (g:=w1.heap.size) rfl;have hE5:Ext w1 (w1.alloc (.cells #[.func (.func 115) #[] #[.pointer (some ⟨gm+1,0,none⟩)]] 62)):=(Ext.refl w1).alloc _;generalize w1.alloc (.cells #[.func (.func 115) #[] #[.pointer (some ⟨gm+1,0,none⟩)]] 62)=w5 at hBg hE5⊢;obtain ⟨go,hgo⟩:∃g,g=w1.heap.size:=⟨_,rfl⟩;rw [←hgo] at hBg⊢;clear hgo;have g0:=Ext.rule (hBg.cell (k:=0) rfl);have HE5:Hid (Ext w w5):=HW1.out.trans hE5;have r0:=fun W h=>r0 W (hE5.trans h)
     have r1:=fun W h=>r1 W (hE5.trans h)
     have r2:=fun W h=>r2 W (hE5.trans h)
     have r3:=fun W h=>r3 W (hE5.trans h)
     have r4:=fun W h=>r4 W (hE5.trans h)
     have r5:=fun W h=>r5 W (hE5.trans h)
     have r6:=fun W h=>r6 W (hE5.trans h)
     have r7:=fun W h=>r7 W (hE5.trans h)
     have r8:=fun W h=>r8 W (hE5.trans h)
     have p0:=fun W h=>p0 W (hE5.trans h)
     have p1:=fun W h=>p1 W (hE5.trans h)
     have hx5:Ext w5 w5:=Ext.refl w5;have htkf:t<m.free.length:=by rw [G.out.fl];exact HTL.out
     have HCV:Hid (CutV w5 ok okp gm (gm+1) go m _ _ _ _ _ ch (c:Int) t _ s):=⟨H.out.more HE5.out,r0 _ hx5,r1 _ hx5,r2 _ hx5,r3 _ hx5,r4 _ hx5,r5 _ hx5,r6 _ hx5,r7 _ hx5,r8 _ hx5,p0 _ hx5,p1 _ hx5,HSD.out.below HE5.out,g0 _ hx5⟩;have HP1:=zh p1
     have HHD:Hid (∀W,Ext w5 W→Calls Tryz.prog 116 #[.agg #[.int .i64 m.w,.int .i64 m.h,.int .i64 m.l,.slice Af m.free.length cf,.slice Au m.up.length cu,.slice (some ⟨bt,offt,none⟩) m.tasks.length ct,.slice Ac ch.length cc,.slice Ap PL cp,.int .i64 (c:Nat)],.int .i64 (t:Nat)] W fun e w'=>∃A c',e=.returned (.slice A (zao m ch t).length c')∧Ext W w'∧zf w' (fun _=>True) (.slice A (zao m ch t).length c') (zao m ch t)):=fun W hW=>by
      refine (phead_calls (c:Int) t W (H.out.more (HE5.out.trans hW)) HL.out HC.out HI.out HTL.out).mono ?_;rintro e w' ⟨v',rfl,hE',hv⟩;obtain ⟨A,c',rfl,-,-⟩:=id hv;exact ⟨A,c',rfl,hE',hv⟩
     obtain ⟨b1,hb1⟩:∃b1,b1=(zao m ch t).all fun n=>decide (n∈s):=⟨_,rfl⟩
     have HCF:Hid (∀(W:World) (v9:Value),Ext w5 W→zf W (fun _=>True) v9 (zao m ch t)→Calls Tryz.prog 54 #[v9,.func (.func 115) #[] #[.pointer (some ⟨gm+1,0,none⟩)]] W fun e w'=>e=.returned (.bool (!b1))∧Ext W w'):=fun W v9 hW hv=>by
      have h:=zbq 115 #[.pointer (some ⟨gm+1,0,none⟩)] (fun x=>!decide (x∈s)) W hv HHL.out (zad Tryz.func115 rfl rfl) (fun x _ w9 h9=>by
       refine (cut1_calls x w9 (HP1.out w9 (hW.trans h9)) (HSD.out.below (HE5.out.trans (hW.trans h9))) hps).mono ?_;rintro e w' ⟨rfl,rfl⟩;exact ⟨rfl,Ext.refl _⟩)
      rw [←List.not_all_eq_any_not,←hb1] at h;exact h
     have HC2:Hid (∀W,Ext w5 W→Calls Tryz.prog 54 #[.slice As s.length cs,.func (.func 117) #[] #[.pointer (some ⟨gm,0,none⟩),.pointer (some ⟨gm+1,0,none⟩),.pointer (some ⟨go,0,none⟩)]] W fun e w'=>e=.returned (.bool (!wallB m ch t s))∧Ext W w'):=fun W hW=>by
      have h:=zbq 117 #[.pointer (some ⟨gm,0,none⟩),.pointer (some ⟨gm+1,0,none⟩),.pointer (some ⟨go,0,none⟩)] (fun n=>(zap m n).any fun k=>(ze m t k && !decide (k∈ch)) && !decide (k∈s)) W (HSD.out.below (HE5.out.trans hW)) hps (zad Tryz.func117 rfl rfl) (fun x _ w9 h9=>cut2_calls x w9 (HCV.out.more (hW.trans h9)) G.out HL.out (by omega) htkf hps);rw [wall_any,Bool.not_not];exact h
     rw [←hb1] at HF2;obtain ⟨b2,hb2⟩:∃b2,b2=wallB m ch t s:=⟨_,rfl⟩;rw [←hb2] at HC2 HF2;clear hb1 hb2 hE5 hBg;have hmk:∀(fn:Fn) (first cap:Array Value) (w:World),(Instr.makeFunc fn first cap).run Tryz.prog w=.ok (.func fn first cap) w:=fun _ _ _ _=>rfl
     refine wp_region_held_drew (S:=(fun W=>Ext w5 W)) zS (hx5.drew) (fun zH=>?_);have hHd:Ext w5 w5.drew:=zH;clear hHd;generalize w5.drew=wd at zH⊢;refine rtT 0 zH ?_;simp only [za,Act.put];refine rtT 1 zH ?_;simp only [za,Act.put];refine rtT 2 zH ?_;simp only [za,Act.put];refine rtT 4 zH ?_;simp only [za,Act.put];refine rtR 3 (fun K hK=>?_);go_simp;go_at_call 116;refine (HHD.out _ zH).mono ?_;rintro e w6 ⟨A6,c6,rfl,hE6,hi6⟩;have HI6:=zh hi6;clear hi6;go_simp;refine hK.out _ _ (zH.trans hE6) (fun zH=>?_);clear hK K;try simp only [za,Act.put]
     refine rtR 5 (fun K hK=>?_);go_simp;go_at_call 54;refine (HCF.out _ _ zH HI6.out).mono ?_;rintro e w7 ⟨rfl,hE7⟩;go_simp;refine hK.out _ _ (zH.trans hE7) (fun zH=>?_);clear hK K;try simp only [za,Act.put]
     refine wpAnyH_done (by kernel_rfl) ?_ _
     cases b1 with
     | false=>
      have HFF:Hid (R=false):=by (show _=_);rw [HF2.out];rfl
      go_wp2_with fail
      go_ret;exact ⟨zd HFF.out.symm,HE5.out.trans zH⟩
     | true=>
      have HFF:Hid (R=b2):=by (show _=_);rw [HF2.out];rfl
      have hx7:Ext w5 w7:=zH
      go_wp2_with fail
      refine (HC2.out _ hx7).mono ?_;rintro e w8 ⟨rfl,hE8⟩
      go_wp2_with fail
      go_ret;exact ⟨zd HFF.out.symm,(HE5.out.trans hx7).trans hE8⟩
end Go.Proofs.YthbjngbhbbkkgaaGreat
