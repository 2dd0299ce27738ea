import Derived.Test.YtjomnbdjajjgfaaGreatDoorWJj
set_option linter.unusedVariables false
set_option linter.unusedSimpArgs false
set_option maxRecDepth 100000
set_option maxHeartbeats 16000000
namespace Go.Proofs.YtjomnbdjajjgfaaGreatDoor
variable {a:Act} {K:Act->World->Prop} {ops:Array Oper} {Q:Exit->Act->World->Prop} {pp:List (List Int)} {ch p:List Int} {m:MZ} {B bytes cap g sz t:Nat} {ok okc okp:Nat->Prop} {o:Oper} {f ts u v vc vp z:Value} {W w w':World}
section
open Go.RowKit
theorem okC_of (D:AV m=0) (h:zw m ch):EH m ch=true:=by
 unfold EH;rw [FB D,AX.2 h];rfl
theorem curF_eq {m:MZ} {pp:List (List Int)} {c:Nat}:∀(f t:Nat),t<=c->c<=t+f->(∀j,t<=j->j<c->j<pp.length/\endB m pp j=true)->¬ (c<pp.length/\endB m pp c=true)->curF m pp f t=c
 | 0,t,h0,h1,_,_=>by unfold curF;omega
 | f+1,t,h0,h1,h2,h3=>by
  unfold curF;by_cases h:t=c
  ·subst h;rw [if_neg h3]
  ·rw [if_pos (h2 t (Fy _) (by omega))];exact curF_eq f (t+1) (by omega) (by omega) (fun j E D=>h2 j (by omega) D) h3
theorem fin_last (h:zw m ch) (D:(zS m ch).length<m.tasks.length):finB m (zS m ch)=false:=by
 have E:∀l:List (List Int),finB m (l++[[]])=false:=fun l=>by
  unfold finB
  have:(l++[([]:List Int)]).getD ((l++[([]:List Int)]).length - 1) []=[]:=by
   rw [FG,zak,Nat.add_sub_cancel,Fx,FE (Fy _)];simp
  rw [this];rfl
 cases h with
 | nil=>
  rw [psOf_nil] at D⊢;unfold ps0 at D⊢
  split
  ·rename_i h0;omega
  ·exact E []
 | @snoc ch n h G=>
  rw [Eu] at D⊢;unfold Ch at D⊢
  split
  ·exact E _
  ·rename_i h0
   rw [if_neg h0,DQ] at D
   cases hf:finB m (CF (zS m ch) n) with
   | false=>rfl
   | true=>exact absurd ⟨hf,D⟩ h0
structure Cur (m:MZ) (ch:List Int) (qs:List (List Int)) (a:List Int):Prop where
 ps:zS m ch=qs++[a]
 lt:qs.length<m.tasks.length
 cur:Bd m ch=qs.length
 pp:zq m ch=if a=[] then qs else qs++[a]
theorem ne_of_fin (h:FinP m t p):p≠[]:=by
 obtain ⟨x,D,-⟩:=h;intro e;subst e;cases D
theorem endB_fin (hp:pp[t]?=some p) (h:FinP m t p):endB m pp t=true:=by
 obtain ⟨x,D,h2⟩:=h;unfold endB;rw [Fx,hp,zap,D];exact FB h2
theorem filter_ne {l:List (List Int)} (h:∀q∈l,q≠[]):l.filter (fun p=>decide (p.length≠0))=l:=
 List.filter_eq_self.2 fun q D=>FB (fun e=>h q D (List.length_eq_zero_iff.1 e))
theorem cur_of (hc:AV m=0) (h:zw m ch):(zV m ch=true/\Bd m ch=m.tasks.length)\/(zV m ch=false/\∃qs a,Cur m ch qs a):=by
 have g:=zZ.of hc;have hO:=h.psOk;have hR:=h.psR;have a2:zq m ch=(zS m ch).filter (fun p=>decide (p.length≠0)):=by unfold zq;rw [if_pos (okC_of hc h)]
 cases G:zV m ch with
 | true=>
  left
  obtain ⟨h1,h2⟩:=h.all G
  have V:zq m ch=zS m ch:=by
   rw [a2];refine filter_ne fun q hq=>?_
   obtain ⟨i,hi,rfl⟩:=zaq hq;exact ne_of_fin (h2 i _ (Fw hi)).2
  refine ⟨rfl,?_⟩;unfold Bd;rw [V];refine curF_eq _ _ (FN _) (by omega) (fun j _ D=>?_) (fun hx=>by omega);have O:j<(zS m ch).length:=by omega
  exact ⟨O,endB_fin (Fw O) (h2 j _ (Fw O)).2⟩
 | false=>
  right
  refine ⟨rfl,?_⟩;have ht:=BU (ps:=zS m ch) G;have M:=hO.pn ht;rcases List.eq_nil_or_concat (zS m ch) with he | ⟨qs,a,he⟩
  ·rw [he] at M;cases M
  ·rw [List.concat_eq_append] at he;have J:(zS m ch).length=qs.length+1:=by rw [he];simp
   have I:∀j (D:j<qs.length),FinP m j qs[j]:=fun j D=>hR.fin j _ (by rw [he,FD D,Fw D]) (by omega)
   have a6:∀q∈qs,q≠[]:=fun q hq=>by
    obtain ⟨i,hi,rfl⟩:=zaq hq;exact ne_of_fin (I i hi)
   have E:zq m ch=if a=[] then qs else qs++[a]:=by
    rw [a2,he,zay,filter_ne a6];by_cases U:a=[]
    ·subst U;simp
    ·rw [if_neg U,filter_ne (l:=[a]) (by simpa using U)]
   have b2:=hO.pl;refine ⟨qs,a,he,by omega,?_,E⟩
   have D:∀j (D:j<qs.length),(zq m ch)[j]?=some qs[j]:=fun j D=>by
    rw [E]
    split
    ·exact Fw D
    ·rw [FD D,Fw D]
   unfold Bd;refine curF_eq _ _ (FN _) ?_ (fun j _ a1=>?_) ?_
   ·rw [E];split <;> simp
   ·have h3:=D j a1;obtain ⟨h4,-⟩:=za6.1 h3;exact ⟨h4,endB_fin h3 (I j a1)⟩
   ·rintro ⟨h4,h5⟩;have U:a≠[]:=fun e=>by rw [E,if_pos e] at h4;omega
    have h6:(zq m ch).getD qs.length []=a:=by
     rw [E,if_neg U,Fx,FE (Fy _)];simp
    unfold endB at h5;rw [h6] at h5
    have a0:finB m (zS m ch)=true:=by
     unfold finB;rw [J,Nat.add_sub_cancel]
     have:(zS m ch).getD qs.length []=a:=by
      rw [he,Fx,FE (Fy _)];simp
     rw [this];exact h5
    unfold zV cmpB at G;rw [a0,Bool.and_true,Bool.or_eq_false_iff,zai,zai] at G;have h7:qs.length+1<m.tasks.length:=by omega
    exact absurd a0 (by rw [fin_last h (by rw [J];exact h7)];simp)
theorem headP_range {qs:List (List Int)} {a:List Int} (G:AV m=0) (E:zw m ch) (h:Cur m ch qs a) (ht:t<m.tasks.length):∀x∈Cx m ch t,0<=x/\x<m.n:=by
 have g:=zZ.of G;intro x D;unfold Cx at D
 split at D
 ·rw [Option.mem_toList] at D;have h1:x∈(zq m ch).flatten:=mem_flat_iff.2 ⟨t,List.mem_of_getLast? D⟩;refine (E.range g).1 x ?_;rw [<-E.psOk.fl,h.ps];rw [h.pp] at h1
  split at h1
  ·rw [List.flatten_append];exact List.mem_append_left _ h1
  ·exact h1
 ·rw [za9,Fx,Fw ht] at D;exact g.tn _ (Fz ht) x (.inl D.1)
theorem sideP_eq (D:AV m=0) (ht:t<m.tasks.length):Dd m ch t=Cq m t (Cx m ch t) ch:=by
 unfold Dd Dq;rw [if_pos ⟨D,by omega,by omega⟩,za1]
inductive All2 (P:Int->PT->Prop):List Int->List PT->Prop
 | nil:All2 P [] []
 | cons {n:Int} {p:PT} {l:List Int} {ps:List PT}:P n p->All2 P l ps->All2 P (n :: l) (p :: ps)
theorem kidsR_ok {f:Int->Nat->Int×PT×Nat} {P:Int->PT->Prop}:∀(l:List Int) (k:Nat) (acc:List PT),(∀n∈l,∀k,k<=3000->(f n k).1=0->P n (f n k).2.1/\(f n k).2.2=k+(f n k).2.1.size/\(f n k).2.2<=3000)->k<=3000->(Az f l k acc).1=0->
  ∃ps,(Az f l k acc).2.1=acc++ps/\All2 P l ps/\(Az f l k acc).2.2=k+PT.sizeL ps/\(Az f l k acc).2.2<=3000
 | [],k,acc,_,D,_=>⟨[],by simp [Az],.nil,by simp [Az,PT.sizeL],D⟩
 | n :: l,k,acc,hf,D,h=>by
  unfold Az at h⊢;by_cases h0:(f n k).1=0
  ·rw [if_pos h0] at h⊢;obtain ⟨h1,h2,h3⟩:=hf n (zaw ..) k D h0;obtain ⟨ps,q1,q2,q3,q4⟩:=kidsR_ok l _ (acc++[(f n k).2.1]) (fun n' E=>hf n' (zaf _ E)) h3 h;exact ⟨(f n k).2.1 :: ps,by rw [q1];simp,.cons h1 q2,by rw [q3,h2];simp only [PT.sizeL];omega,q4⟩
  ·rw [if_neg h0] at h;exact absurd h h0
theorem holdsL_of {l:List Int} {ps:List PT} (h:All2 (fun n p=>holdsT m p (ch++[n])=true) l ps):holdsL m ps ch l=true:=by
 induction h with
 | nil=>simp [holdsL]
 | cons h1 _ ih=>unfold holdsL;rw [h1,ih];rfl
theorem incB_of {N:Int}:∀{l:List Int} {b:Int},l.Pairwise (·<·)->(∀x∈l,b<x)->(∀x∈l,x<N)->incB N b l=true
 | [],_,_,_,_=>rfl
 | x :: l,b,hp,h1,h2=>by
  rw [List.pairwise_cons] at hp;unfold incB;rw [FB (h1 x (zaw ..)),FB (h2 x (zaw ..)),incB_of hp.2 hp.1 (fun y D=>h2 y (zaf _ D))];rfl
theorem cutT_some (h:cutT m ch=some t):Bd m ch<=t/\t<m.tasks.length/\offB m ch t=true:=by
 unfold cutT at h;have h1:=List.find?_some h;have h2:=List.mem_of_find?_eq_some h;obtain ⟨k,D,rfl⟩:=zaA.1 h2;rw [zaB] at D;exact ⟨by omega,by omega,h1⟩
theorem cut_holds (E:AV m=0) (M:zw m ch) (h:cutT m ch=some t):cutB m ch t (Dd m ch t) 0=true/\((t:Int)≠Bd m ch\/Dd m ch t≠[]):=by
 obtain ⟨h1,h2,h3⟩:=cutT_some h;have g:=zZ.of E;have d:=g.dim;rcases cur_of E M with ⟨-,h4⟩ | ⟨-,qs,a,hC⟩
 ·omega
 ·have hs:=sideP_eq (ch:=ch) E h2;have O:=headP_range E M hC h2;unfold offB at h3;rw [FK,zaD,FI,FI,Bool.not_eq_true'] at h3;obtain ⟨V,h6⟩:=h3;refine ⟨?_,h6.symm.imp (fun h=>by omega) id⟩;unfold cutB;rw [if_neg]
  ·rw [za1,V,Bool.not_false,Bool.true_and,FK,FK];rw [hs];refine ⟨incB_of (reachL_pw ..) (fun x D=>?_) (fun x D=>?_),?_,?_⟩
   ·have:=((CN d).1 D).range d;omega
   ·exact (((CN d).1 D).range d).2
   ·rw [zaF];intro x D;exact FB ((CN d).2 (RP.base D (O x D).1 (O x D).2))
   ·unfold wallB;rw [zaF];intro x D;rw [zaF];intro y G;have J:=(CN d).1 D;unfold nextO at G
    split at G
    ·by_cases hf:zj m t y=true
     ·by_cases U:y∈ch
      ·rw [FB U];simp
      ·rw [FB ((CN d).2 (J.step G hf U))];simp
     ·have I:zj m t y=false:=by simpa using hf
      rw [I];simp
    ·cases G
  ·rintro (h7 | h7 | ⟨h7,h8⟩ | h7)
   ·omega
   ·omega
   ·rcases h6 with h6 | h6
    ·exact h6 h8
    ·omega
   ·exact h7 rfl
theorem proveP_ok {m:MZ} (D:AV m=0):∀(f:Nat) (ch:List Int) (k:Nat),zw m ch->k<=3000->(zk m f ch k).1=0->holdsT m (zk m f ch k).2.1 ch=true/\(zk m f ch k).2.2=k+(zk m f ch k).2.1.size/\(zk m f ch k).2.2<=3000
 | 0,ch,k,_,_,h=>by simp [zk] at h
 | f+1,ch,k,E,J,h=>by
  unfold zk at h⊢
  split at h
  ·simp at h
  ·rename_i h1
   rw [if_neg h1]
   split at h
   ·simp at h
   ·rename_i h2
    rw [if_neg h2]
    split at h
    ·rename_i t ht
     obtain ⟨h3,h4⟩:=cut_holds D E ht;refine ⟨?_,by simp [PT.size,PT.sizeL],by show k+1<=3000;omega⟩;unfold holdsT;rw [if_neg h1,if_pos h4];exact h3
    ·rename_i I
     have e:AD m ch=Bn m ch:=by unfold AD;rw [if_pos (okC_of D E)]
     simp only at h⊢
     split at h
     ·rename_i h3
      rw [if_pos h3];obtain ⟨ps,q1,q2,q3,q4⟩:=kidsR_ok (P:=fun n p=>holdsT m p (ch++[n])=true) (AD m ch) (k+1) [] (fun n I k' G h0=>proveP_ok D f (ch++[n]) k' (.snoc E (by rw [<-e];exact I)) G h0) (by omega) h3;rw [q1,List.nil_append];refine ⟨?_,by rw [q3];simp only [PT.size];omega,q4⟩;unfold holdsT;rw [if_neg h1,if_neg (by simp)];exact holdsL_of q2
     ·rename_i h3;exact absurd h h3
end
section
open Go.RowKit
attribute [local go_sem ↓] Go.wp_at_zero Go.wp_at_succ
theorem box6 (w:World) (a0 a1 a2 a3 a4 a5:Value):za w (w.alloc (.cells #[a0,a1,a2,a3,a4,a5] 32))/\
  (∀W,za (w.alloc (.cells #[a0,a1,a2,a3,a4,a5] 32)) W->W.cell? ⟨w.heap.size,0,none⟩=some a0)/\(∀W,za (w.alloc (.cells #[a0,a1,a2,a3,a4,a5] 32)) W->W.cell? ⟨w.heap.size,1,none⟩=some a1)/\
  (∀W,za (w.alloc (.cells #[a0,a1,a2,a3,a4,a5] 32)) W->W.cell? ⟨w.heap.size,2,none⟩=some a2)/\(∀W,za (w.alloc (.cells #[a0,a1,a2,a3,a4,a5] 32)) W->W.cell? ⟨w.heap.size,3,none⟩=some a3)/\
  (∀W,za (w.alloc (.cells #[a0,a1,a2,a3,a4,a5] 32)) W->W.cell? ⟨w.heap.size,4,none⟩=some a4)/\(∀W,za (w.alloc (.cells #[a0,a1,a2,a3,a4,a5] 32)) W->W.cell? ⟨w.heap.size,5,none⟩=some a5):=by
 have D:=ze.new w #[a0,a1,a2,a3,a4,a5] 32 rfl;exact ⟨(za.refl w).alloc _,za.rule (D.cell (k:=0) rfl),za.rule (D.cell (k:=1) rfl),za.rule (D.cell (k:=2) rfl),za.rule (D.cell (k:=3) rfl),za.rule (D.cell (k:=4) rfl),za.rule (D.cell (k:=5) rfl)⟩
theorem zL.parts (h:zL w ok v m):∃Af cf Au cu At ct,v=.agg #[.int .i64 m.w,.int .i64 m.h,.int .i64 m.l,.slice Af m.free.length cf,.slice Au m.up.length cu,.slice At m.tasks.length ct]/\
  BG w ok (.slice Af m.free.length cf) m.free/\AR w ok (.slice Au m.up.length cu) m.up/\Cv w ok (.slice At m.tasks.length ct) m.tasks:=by
 obtain ⟨vfr,vup,vts,rfl,hf,I,ht⟩:=h;have D:=hf;have G:=I;have E:=ht;obtain ⟨_,⟨Af,cf,rfl,-⟩,-⟩:=D;obtain ⟨Au,cu,rfl,-⟩:=G;obtain ⟨_,⟨At,ct,rfl,-⟩,-⟩:=E;exact ⟨Af,cf,Au,cu,At,ct,rfl,hf,I,ht⟩
theorem freeCells {Af:Option Addr} {cf:Nat} (h:BG W ok (.slice Af m.free.length cf) m.free) (hfn:∀f∈m.free,(f.length:Int)=m.n) (ht:t<m.free.length) {n:Int} (h0:0<=n) (h1:n<m.n):
  ∃b off b' off' l c',Af=some ⟨b,off,none⟩/\W.cell? ⟨b,off+t,none⟩=some (.slice (some ⟨b',off',none⟩) l c')/\n<(l:Int)/\l<=c'/\m.free.length<=cf/\W.cell? ⟨b',off'+n.toNat,none⟩=some (.bool (zj m t n)):=by
 obtain ⟨vsf,⟨A,c,e,M,a1⟩,O⟩:=h;injection e with e1 e2 e3;subst e1 e3;obtain ⟨bf,off3,uf,rfl,_,G,I⟩:=AW a1 O ht ht;have U:=hfn _ (Fz ht);obtain ⟨A4,c4,rfl,J,a0⟩:=I;have E:n.toNat<(m.free[t]).length:=by omega
 obtain ⟨b4,off4,rfl,_,D⟩:=BS a0 E E;have V:(m.free[t])[n.toNat]=zj m t n:=by simp [zj,ht,E]
 rw [V] at D;exact ⟨bf,off3,b4,off4,_,c4,rfl,G,by omega,J,M,D⟩
theorem zT.ext (h:zT w w'):za w w':=h.below _
end
section
open Go.RowKit
structure ElemI (t e:TypeId) (z:Value) (sz bytes:Nat):Prop where
 ht:Tryz.prog.underlying t=some (.slice e)
 hi:(Tryz.prog.info? e).map (fun i=>(i.zero,i.size,i.bytes))=some (some z,sz,bytes)
 hz:z.cells.size=sz
 h0:0<sz
theorem run_append_rowS (w:World) (base:Nat) (t ty e:TypeId) (z:Value) (sz bytes:Nat) (I:ElemI t e z sz bytes)
  (v:Value) (n:Nat) (xs:List Value) (J:w.ownsRow base e sz v n xs) (u:Value) (m:Nat) (news:List Value) (hu:AS w ok sz u m news) (h1:∀u∈news,u.oneCell'=true)
  (U:n+m<=maxLen) (E:(n+m)*bytes<=140737488355328) (M:base<=w.heap.size):
  ∃v' w',(Builtin.append_ #[t,t] ty #[v,u]).run Tryz.prog w=.ok v' w'/\w'.ownsRow base e sz v' (n+m) (xs++news)/\w.grownBy w' v.ownBlock/\(v'.ownBlock=v.ownBlock\/v'.ownBlock=some w.heap.size):=by
 obtain ⟨i,hi,hz,D,V⟩:=info_parts I.hi;have ht:=I.ht;have a0:=I.hz;have O:=I.h0;obtain ⟨A,c,rfl,hc,hl,G⟩:=hu;rcases A with _ | a
 ·have hm:m=0:=by
   rcases zav m with h | h
   ·exact h
   ·obtain ⟨b,off,e,_⟩:=G h;cases e
  subst hm;have hn:news=[]:=zac (by simpa using hl);subst hn;refine ⟨v,w,?_,by simpa using J,⟨rfl,rfl,rfl,Fy _,fun _ _ _=>rfl⟩,.inl rfl⟩;rcases J.2 with ⟨rfl,rfl⟩ | ⟨g,cap,cur,rfl,a8,hg,b2,a9,b0,a6⟩
  ·simp [Builtin.append_,run_underlying ht,sizeOf,typeInfo,hi,D,Builtin.lenOf,Builtin.firstCells,loadCells,loadCellsFrom]
  ·have h:=run_append_room_src (P:=Tryz.prog) w t t ty e i ht hi g 0 n cap (.slice none 0 c) 0 [] (by rw [D];exact Src.ofNil w ht c) (by omega) (by simp) (by simp);rw [setCells_nil] at h;simpa using h
 ·rcases zav m with h0 | hmp
  ·subst h0;have hn:news=[]:=zac (by simpa using hl);subst hn;obtain ⟨v',w',h1,h2,h3,h4,h5⟩:=run_append_own_at (P:=Tryz.prog) w base t ty e i z sz bytes ht hi hz D V a0 O v n xs J a 0 c [] (by simp) (by simp) (by simp) U E M;exact ⟨v',w',h1,h2,h3,h5⟩
  ·obtain ⟨b,off,he,_,a3⟩:=G hmp;injection he with he;subst he;obtain ⟨v',w',h1,h2,h3,h4,h5⟩:=run_append_own_at (P:=Tryz.prog) w base t ty e i z sz bytes ht hi hz D V a0 O v n xs J ⟨b,off,none⟩ m c news hl (fun j u hj=>by rw [Addr.add_lit];exact a3 j u hj) h1 U E M;exact ⟨v',w',h1,h2,h3,h5⟩
theorem wp_append_row (W:World) (s x:Operand) {t e:TypeId} (I:ElemI t e z sz bytes)
  (O:o.op=.call { callee:=.builtin .append,args:=#[s,x],argTypes:=#[t,t] }) (base n m:Nat) (l l2:List Value) (v u:Value) (V:a.eval s=v) (hx:a.eval x=u)
  (E:W.ownsRow base e sz v n l) (hu:AS W ok sz u m l2) (h1:∀u∈l2,u.oneCell'=true) (D:base<=W.heap.size) (G:n+m<=maxLen) (M:(n+m)*bytes<=140737488355328)
  (h:∀v' w',w'.ownsRow base e sz v' (n+m) (l++l2)->W.grownBy w' v.ownBlock->(v'.ownBlock=v.ownBlock\/v'.ownBlock=some W.heap.size)->K (a.put o.dst v') w'):Oper.wp Tryz.prog o a W K Q:=by
 obtain ⟨v',w',U,h2,h3,J⟩:=run_append_rowS (ok:=ok) W base t o.type e z sz bytes I v n l E u m l2 hu h1 G M D;unfold Oper.wp execOp;simp only [O,resolve,invoke,builtin,Sem.run_bind,Sem.run_pure,Result.andThen_ok,List.map_toArray,List.map_cons,List.map_nil,V,hx,U];exact h v' w' h2 h3 J
theorem AE {rest:List Oper} (J:o.guard=none) (W:World) (s x:Operand) {t e:TypeId} (I:ElemI t e z sz bytes)
  (U:o.op=.call { callee:=.builtin .append,args:=#[s,x],argTypes:=#[t,t] }) (base n m:Nat) (l l2:List Value) (v u:Value) (V:a.eval s=v) (hx:a.eval x=u)
  (E:W.ownsRow base e sz v n l) (hu:AS W ok sz u m l2) (h1:∀u∈l2,u.oneCell'=true) (D:base<=W.heap.size) (G:n+m<=maxLen) (O:(n+m)*bytes<=140737488355328)
  (h:∀v' w',w'.ownsRow base e sz v' (n+m) (l++l2)->W.grownBy w' v.ownBlock->(v'.ownBlock=v.ownBlock\/v'.ownBlock=some W.heap.size)->wpList Tryz.prog ops Q rest (a.put o.dst v') w'):wpList Tryz.prog ops Q (o :: rest) a W:=by
 refine wpList_plain J fun K M=>?_
 exact wp_append_row W s x I U base n m l l2 v u V hx E hu h1 D G O fun v' w' h1 h2 h3=>M _ _ (h v' w' h1 h2 h3)
theorem DC {E:Prop} (M:o.guard=none) (W:World) (s x:Operand) {t e:TypeId} (I:ElemI t e z sz bytes)
  (U:o.op=.call { callee:=.builtin .append,args:=#[s,x],argTypes:=#[t,t] }) (base n m:Nat) (l l2:List Value) (v u:Value) (V:a.eval s=v) (hx:a.eval x=u)
  (G:W.ownsRow base e sz v n l) (hu:AS W ok sz u m l2) (h1:∀u∈l2,u.oneCell'=true) (D:base<=W.heap.size) (J:n+m<=maxLen) (O:(n+m)*bytes<=140737488355328)
  (h:∀v' w',w'.ownsRow base e sz v' (n+m) (l++l2)->W.grownBy w' v.ownBlock->(v'.ownBlock=v.ownBlock\/v'.ownBlock=some W.heap.size)->K (a.put o.dst v') w'):
  if Region.wanted o (yielded ops a.tmps)=true then Oper.wp Tryz.prog o a W K Q else E:=by
 have hw:Region.wanted o (yielded ops a.tmps)=true:=by simp [Region.wanted,M]
 rw [if_pos hw];exact wp_append_row W s x I U base n m l l2 v u V hx G hu h1 D J O h
end
section
open Go.RowKit Go.Shelf Go.Sort
attribute [local go_sem ↓] Go.wp_at_zero Go.wp_at_succ
def dfLA_ren:Go.Shelf.Ren:=⟨fun | 10=>184 | 6=>220 | n=>n,fun | 22=>22 | 23=>23 | 25=>157 | 3=>3 | 4=>4 | 0=>0 | n=>n,fun | n=>n⟩
theorem dfLA:Go.Proofs.SlLaysH.n10 Tryz.prog dfLA_ren:={
 mixed:=by kernel_rfl
 f6:=⟨Tryz.f220.name,by decide,Tryz.func220.trans (congrArg some (by kernel_rfl))⟩
 f10:=⟨Tryz.f184.name,by decide,Tryz.func184.trans (congrArg some (by kernel_rfl))⟩
 t0:=Tryz.underlying0
 a0:=Tryz.isAgg0
 z0:=Tryz.sizeOf0
 v0:=Tryz.zeroValue0
 t3:=Tryz.underlying3
 a3:=Tryz.isAgg3
 z3:=Tryz.sizeOf3
 v3:=Tryz.zeroValue3
 t4:=Tryz.underlying4
 a4:=Tryz.isAgg4
 z4:=Tryz.sizeOf4
 v4:=Tryz.zeroValue4
 t22:=Tryz.underlying22
 a22:=Tryz.isAgg22
 z22:=Tryz.sizeOf22
 v22:=Tryz.zeroValue22
 a23:=Tryz.isAgg23
 z23:=Tryz.sizeOf23
 t25:=Tryz.underlying157
 a25:=Tryz.isAgg157
 z25:=Tryz.sizeOf157
 v25:=Tryz.zeroValue157 }
abbrev SlV:={ v:Value // ∃A n c,v=.slice A n c }
def slLen (v:Value):Nat:=match v with | .slice _ n _=>n | _=>0
theorem holds_sl {l:List SlV} [Inhabited SlV] (h:Cy w B (.slice (some ⟨g,0,none⟩) (l.map (·.1)).length cap) (l.map (·.1))):Holds (fun x:SlV=>x.1) w g 0 l.toArray:=by
 intro j E;have D:j<l.length:=by simpa using E
 refine ⟨?_,by have:=World.ownsRow.frozenAt h j;simpa using this⟩;have:=World.ownsRow.cellAt h j (by simpa using D);rw [Nat.zero_add,this];simp [getElem!_pos,D]
theorem cf75 (a:Array Value) (w:World):(callFunc 186 a).run Tryz.prog w=.ok (.enter 186 a) w:=BT Tryz.func186 (by kernel_rfl) (by kernel_rfl) a w
theorem paths1_sl (x:SlV) (w:World):Calls Tryz.prog 186 (#[x.1]++#[]) w fun e w'=>e=.returned (.bool (decide (slLen x.1=0)))/\w=w':=by
 obtain ⟨_,A,n,c,rfl⟩:=x;show Calls Tryz.prog 186 #[.slice A n c] w _;by_cases D:n=0
 ·subst D
  go_enter Tryz.func186,Tryz.ntmps186
  go_wp2;go_ret;exact ⟨rfl,rfl⟩
 ·have E:((n:Int)==0)=false:=by rw [FM];omega
  have H:Hid (decide (slLen (.slice A n c)=0)=false):=FC D;clear D
  go_enter Tryz.func186,Tryz.ntmps186
  go_wp2;go_ret;exact ⟨zm H.out.symm,rfl⟩
theorem deleteFuncL_calls {l:List SlV} (G:Cy w B (.slice (some ⟨g,0,none⟩) (l.map (·.1)).length cap) (l.map (·.1))) (V:l.length<=1000000):
  Calls Tryz.prog 184 #[.slice (some ⟨g,0,none⟩) (l.map (·.1)).length cap,.func (.func 186) #[] #[]] w fun e w'=>∃v',e=.returned v'/\Cy w' B v' ((l.filter fun x=>!decide (slLen x.1=0)).map (·.1))/\Below B w w':=by
 letI:Inhabited SlV:=⟨⟨.slice none 0 0,_,_,_,rfl⟩⟩
 have E:=Bq G;have M:B<=g:=(World.ownsRow.lt G g rfl).1;have D:(l.map (·.1)).length=l.toArray.size:=by simp
 have I:=AnyE.slices_DeleteFunc dfLA (fun x:SlV=>x.1) (fun x=>by obtain ⟨_,A,n,c,rfl⟩:=x;rfl) (fun x=>decide (slLen x.1=0)) 186 #[] cf75 ⟨.slice none 0 0,_,_,_,rfl⟩ Tryz.zeroValue23 g 0 cap l.toArray w
  (fun W x U=>by
   refine Calls.mono (paths1_sl x W) ?_;rintro e w' ⟨rfl,rfl⟩;exact ⟨rfl,0,rfl⟩)
  (fun n os dk x _=>by
   refine Calls.mono (paths1_sl x _) ?_;rintro e w' ⟨rfl,rfl⟩;exact ⟨rfl,0,rfl⟩)
  (holds_sl G) (by rw [<-D];simp;omega) (by rw [<-D];exact E)
 change Calls Tryz.prog 184 _ _ _ at I;rw [<-D] at I;refine Calls.mono I ?_;rintro e w' ⟨rfl,q,rfl⟩;have J:(l.filter fun x=>!decide (slLen x.1=0)).length<=l.length:=zan _ _;have O:w.ownsRow B 23 1 (.slice (some ⟨g,0,none⟩) (l.map (·.1)).length cap) (l.map (·.1)).length (l.map fun x:SlV=>x.1):=G;refine ⟨_,rfl,?_,Lib.below_putRow (Below.refl _ _) M⟩;have:=Lib.ownsRow_putRow (enc:=fun x:SlV=>x.1) (q:=q) (k:=(l.filter fun x=>!decide (slLen x.1=0)).length) (ys:=(l.filter fun x=>!decide (slLen x.1=0))++List.replicate (l.length - (l.filter fun x=>!decide (slLen x.1=0)).length) ⟨.slice none 0 0,_,_,_,rfl⟩) O (by simp;omega) (by simpa using J);rw [List.take_left' rfl] at this;unfold Cy;rw [zau];simpa using this
theorem deleteFuncL_nil (A:Option Addr) (c:Nat) (w:World):
  Calls Tryz.prog 184 #[.slice A 0 c,.func (.func 186) #[] #[]] w fun e w'=>e=.returned (.slice A 0 c)/\za w w':=by
 have hI:Hid (∀w,Calls Tryz.prog 220 #[.slice A 0 c,.func (.func 186) #[] #[]] w fun e w'=>e=.returned (.int .i64 (-1))/\za w w'):=fun w=>by
  go_enter Tryz.func220,Tryz.ntmps220
  go_wp2_with fail
  go_loopg [8] 0 (fun gk v wr=>v=.int .i64 0/\gk=0/\Hid (za w wr))
  case atStart=>exact ⟨rfl,rfl,za.refl _⟩
  case round=>
   obtain ⟨rfl,rfl,E⟩:=hrel
   go_wp2_with fail
   go_ret;exact ⟨rfl,E.out⟩
 go_enter Tryz.func184,Tryz.ntmps184
 go_wp2_with fail
 refine (hI.out w).mono ?_;rintro e w2 ⟨rfl,D⟩
 go_wp2_with fail
 go_ret;exact ⟨rfl,D⟩
def PathsPostY (Y:Nat->Prop) (w:World) (m:MZ) (ch:List Int) (e:Ending) (w':World):Prop:=
 ∃v,e=.returned (.tuple #[v,.bool (EH m ch)])/\za w w'/\zU w' (fun b=>Y b\/w.heap.size<=b) v (zq m ch)
theorem filter_pair {w:World} {ok:Nat->Prop}:∀(l:List SlV) (ps:List (List Int)),l.length=ps.length->(∀(i:Nat) x,ps[i]?=some x->∃u,(l.map (·.1))[i]?=some u/\zg w ok u x)->
  ((l.filter fun x=>!decide (slLen x.1=0)).length=(ps.filter fun p=>decide (p.length≠0)).length)/\∀(i:Nat) x,(ps.filter fun p=>decide (p.length≠0))[i]?=some x->∃u,((l.filter fun x=>!decide (slLen x.1=0)).map (·.1))[i]?=some u/\zg w ok u x
 | [],[],_,_=>⟨rfl,fun i x D=>by simp at D⟩
 | a :: l,p :: ps,J,h=>by
  obtain ⟨h1,h2⟩:=filter_pair l ps (by simpa using J) (fun i x D=>by simpa using h (i+1) x (by simpa using D));obtain ⟨u,M,I⟩:=h 0 p rfl;have G:a.1=u:=by simpa using M
  have E:slLen a.1=p.length:=by
   obtain ⟨A,c,e,_⟩:=id I;rw [G,e];rfl
  by_cases hp:p.length=0
  ·rw [zas (by simp [E,hp]),zas (by simp [hp])];exact ⟨h1,h2⟩
  ·rw [za4 (by simp [E,hp]),za4 (by simp [hp])];refine ⟨by simp [h1],fun i x D=>?_⟩
   match i,D with
   | 0,D=>
    have:p=x:=by simpa using D
    subst this;exact ⟨u,by simp [G],I⟩
   | i+1,D=>simpa using h2 i x (by simpa using D)
theorem rPathsY_calls {Y:Nat->Prop} (w:World) (hm:zL w Y v m) (hl:Lens m) (b3:zg w okc vc ch) (e2:ch.length<=20000000000000):
  Calls Tryz.prog 129 #[v,vc] w (PathsPostY Y w m ch):=by
 have c9:=zh hm;obtain ⟨vfr,vup,vts,rfl,-,-,-⟩:=hm;have b9:=zh b3;obtain ⟨A,c,rfl,f3,-⟩:=b3;have HL:=zh hl;clear hl
 go_enter Tryz.func129,Tryz.ntmps129
 go_wp2_with fail
 generalize b6:w.alloc (.cells #[.int .i64 m.w,.int .i64 m.h,.int .i64 m.l,vfr,vup,vts] 32)=wa;have M:za w wa:=by rw [<-b6];exact (za.refl w).alloc _
 have c6:Hid (w.heap.size<=wa.heap.size):=M.size;clear b6;refine (stateOf_calls wa (c9.out.below M) HL.out (b9.out.below M) e2).mono ?_;rintro e w1 ⟨v1,rfl,b7,h1⟩;have H1:=zh h1;have J:za w w1:=M.trans b7;have a7:Hid (w.heap.size<=w1.heap.size):=J.size;clear h1 b7;obtain ⟨bb,a2⟩:=zaI (EH m ch);rw [<-a2] at H1⊢;have D:=zh a2;clear a2;cases bb
 ·have E:Hid (PathsPostY Y w m ch (.returned (.tuple #[.slice none 0 0,.bool false])) w1):=⟨_,by rw [<-D.out],J,by unfold zq;rw [<-D.out];exact ⟨[],⟨none,0,rfl,Fy _,Ba.nil _ _ _ _⟩,fun i x hx=>by simp at hx⟩⟩
  go_wp2_with fail
  go_ret2
  exact E.out
 ·have I:∃p,v1=.pointer (some ⟨p,0,none⟩)/\Fu w1 (fun b=>Y b\/wa.heap.size<=b) p m ch:=by
   rcases H1.out with ⟨h,_⟩ | ⟨_,h⟩
   ·cases h
   ·exact h
  obtain ⟨p,rfl,us,f,u,t,vc',vp,gu,e3,I⟩:=I;obtain ⟨r0,r1,r2,r3,r4,r5,r6,r7,r8⟩:=I.rules;obtain ⟨hg,hc⟩:=DY D.out.symm;obtain ⟨vs,⟨Ap,cp,rfl,d8,a4⟩,a3⟩:=I.ps;have a5:vs.length=(zS m ch).length:=by have:=a4.1;omega
  have e8:(zS m ch).length<=6:=FA hc.psOk.pl hg.tk
  have a8:Hid (AS w1 (fun b=>Y b\/wa.heap.size<=b) 1 (.slice Ap (zS m ch).length cp) vs.length vs):=by
   show AS _ _ _ _ _ _;rw [a5];exact ⟨Ap,cp,rfl,d8,a4⟩
  have c7:=zh a3
  have b1:∀u∈vs,∃A n c,u=.slice A n c:=fun u hu=>by
   obtain ⟨i,hi,rfl⟩:=zaq hu;obtain ⟨u',h1,A',c',e,_⟩:=a3 i _ (Fw (by omega));rw [Fw hi] at h1;injection h1 with h1;exact ⟨_,_,_,h1.trans e⟩
  have a9:=zh b1;have b0:=zh a5;have d5:Hid (zq m ch=(zS m ch).filter fun p=>decide (p.length≠0)):=by show _=_;unfold zq;rw [if_pos D.out.symm]
  clear I e3 hg hc H1 a3 a4 b1 a5;have e9:=za.refl w1
  go_wp2_with fail
  refine (cloneL_calls w1 a8.out (fun u hu=>by obtain ⟨A,n,c,rfl⟩:=a9.out u hu;rfl) (by have:=b0.out;omega)).mono ?_;rintro e w2 ⟨v2,rfl,V,G⟩;obtain ⟨l,hl⟩:∃l:List SlV,l.map (·.1)=vs:=⟨vs.attachWith _ a9.out,by simp⟩;have b4:l.length=(zS m ch).length:=by have:=congrArg List.length hl;have:=b0.out;simp at *;omega
  have b2:=filter_pair (w:=w1) (ok:=fun b=>Y b\/wa.heap.size<=b) l (zS m ch) b4 (by rw [hl];exact c7.out);have c8:=zh b2;have f1:za w w2:=J.trans V
  have U:∃v3 w3,Calls Tryz.prog 184 #[v2,.func (.func 186) #[] #[]] w2 (fun e w'=>∃v',e=.returned v'/\Cy w' w1.heap.size v' ((l.filter fun x=>!decide (slLen x.1=0)).map (·.1))/\za w1 w')/\v3=v2/\w3=w2:=by
   refine ⟨v2,w2,?_,rfl,rfl⟩;rcases zav vs.length with h0 | h0
   ·have e4:=zac h0;subst e4;have e1:l=[]:=zac (by have:=congrArg List.length hl;simpa using this);subst e1;obtain ⟨A',c',rfl,f2,-⟩:=AS.of_own G;refine (deleteFuncL_nil A' c' w2).mono ?_;rintro e w3 ⟨rfl,hE⟩;exact ⟨_,rfl,Cy.ext G hE,V.trans hE⟩
   ·have a0:=G;unfold Cy at a0;obtain ⟨g,cap,rfl,hg,f4⟩:=World.ownsRow.form a0 h0;subst hl;refine (deleteFuncL_calls G (by omega)).mono ?_;rintro e w3 ⟨v3,rfl,O,d7⟩;exact ⟨_,rfl,O,Below.trans V d7⟩
  obtain ⟨_,_,U,_,_⟩:=U;have c0:=zh U;clear G U V hl b4 b2
  go_wp2_with fail
  refine c0.out.mono ?_;rintro e w3 ⟨v3,rfl,O,a6⟩
  have E:Hid (PathsPostY Y w m ch (.returned (.tuple #[v3,.bool true])) w3):=by
   refine ⟨v3,by rw [<-D.out],J.trans a6,?_⟩;rw [d5.out];obtain ⟨h1,h2⟩:=c8.out;have h3:AS w3 (fun b=>Y b\/w.heap.size<=b) 1 v3 (((l.filter fun x=>!decide (slLen x.1=0)).map (·.1)).length) ((l.filter fun x=>!decide (slLen x.1=0)).map (·.1)):=(AS.of_own O).weaken fun b hb=>.inr (FA a7.out hb)
   rw [zau,h1] at h3
   exact ⟨_,h3,fun i x hx=>by
    obtain ⟨u,hu,hi⟩:=h2 i x hx;exact ⟨u,hu,(hi.weaken fun b hb=>hb.imp id (fun h=>FA c6.out h)).below a6⟩⟩
  clear O a6
  go_wp2_with fail
  go_ret2
  exact E.out
end
section
open Go.RowKit
attribute [local go_sem ↓] Go.wp_at_zero Go.wp_at_succ
theorem Cp (D:AV m=0) (h:zw m ch):(zq m ch).length<=m.tasks.length/\m.tasks.length<=6/\ch.length<=300/\∀x∈zq m ch,x≠[]/\x.length<=1000:=by
 have g:=zZ.of D;have h1:=h.psOk;have h2:=h.len300 g;unfold zq;rw [if_pos (okC_of D h)];refine ⟨FA (zan _ _) h1.pl,g.tk,h2,fun x E=>⟨?_,?_⟩⟩
 ·have:=(za9.1 E).2;rintro rfl;simp at this
 ·have h3:=flat_le (za9.1 E).1;rw [h1.fl] at h3;omega
structure PSt (w:World) (ok:Nat->Prop) (m:MZ) (f u ts vc vp:Value) (ch:List Int):Prop where
 maze:zL w ok (.agg #[.int .i64 m.w,.int .i64 m.h,.int .i64 m.l,f,u,ts]) m
 chs:zg w ok vc ch
 ps:zU w ok vp (zq m ch)
def stv (m:MZ) (f u ts vc vp:Value) (t:Int):Value:=.agg #[.int .i64 m.w,.int .i64 m.h,.int .i64 m.l,f,u,ts,vc,vp,.int .i64 t]
theorem PSt.more (h:PSt w ok m f u ts vc vp ch) (D:za w w'):PSt w' ok m f u ts vc vp ch:=⟨h.maze.below D,h.chs.below D,h.ps.below D⟩
def setL (g:Nat):Nat->List Value->World->World
 | _,[],W=>W
 | k,v :: vs,W=>setL g (k+1) vs (W.setCell ⟨g,k,none⟩ v)
theorem Ea (g:Nat):∀(vs:List Value) (k:Nat) (W:World),Below g W (setL g k vs W)
 | [],_,W=>Below.refl g W
 | v :: vs,k,W=>((Below.refl g W).setCell (p:=⟨g,k,none⟩) (Fy _) v).trans (Ea g vs (k+1) _)
theorem Eb (g:Nat) (b:Nat) (D:b≠g):∀(vs:List Value) (k:Nat) (W:World),(setL g k vs W).heap[b]?=W.heap[b]?
 | [],_,W=>rfl
 | v :: vs,k,W=>(Eb g b D vs (k+1) _).trans (FH W ⟨g,k,none⟩ v b D)
theorem setL_blk {g:Nat} {t:TypeId}:∀(vs:List Value) (us ws:List Value) (W:World),us.length=vs.length->ze W g t (ws++us).toArray->ze (setL g ws.length vs W) g t (ws++vs).toArray
 | [],us,ws,W,D,h=>by
  have:us=[]:=List.length_eq_zero_iff.1 D;subst this;exact h
 | v :: vs,us,ws,W,D,h=>by
  match us,D,h with
  | u :: us,D,h=>
   have h1:=h.set (k:=ws.length) v;rw [List.setIfInBounds_toArray,List.set_append_right _ _ (Fy _),Nat.sub_self,List.set_cons_zero] at h1;have h2:=setL_blk vs us (ws++[v]) _ (by simpa using D) (by rw [List.append_assoc];exact h1);rw [List.append_assoc,FG] at h2;exact h2
theorem case_fin9 {P:World->Prop} {g2:Nat} {t:TypeId} {a0 a1 a2 a3 a4 a5 a6 a7 a8 z0 z1 z2 z3 z4 z5 z6 z7 z8:Value} (h:∀WZ,ze WZ g2 t #[a0,a1,a2,a3,a4,a5,a6,a7,a8]->Below g2 W WZ->(∀k,k<W.heap.size->k≠g2->WZ.heap[k]?=W.heap[k]?)->P WZ) (E:ze W g2 t #[z0,z1,z2,z3,z4,z5,z6,z7,z8]):
  P (((((((((W.setCell ⟨g2,0,none⟩ a0).setCell ⟨g2,1,none⟩ a1).setCell ⟨g2,2,none⟩ a2).setCell ⟨g2,3,none⟩ a3).setCell ⟨g2,4,none⟩ a4).setCell ⟨g2,5,none⟩ a5).setCell ⟨g2,6,none⟩ a6).setCell ⟨g2,7,none⟩ a7).setCell ⟨g2,8,none⟩ a8):=
 h (setL g2 0 [a0,a1,a2,a3,a4,a5,a6,a7,a8] W) (setL_blk [a0,a1,a2,a3,a4,a5,a6,a7,a8] [z0,z1,z2,z3,z4,z5,z6,z7,z8] [] W rfl E) (Ea g2 _ 0 W) (fun k _ D=>Eb g2 k D _ 0 W)
theorem of_calls (w:World) (hm:zL w ok (.agg #[.int .i64 m.w,.int .i64 m.h,.int .i64 m.l,f,u,ts]) m) (hl:Lens m) (hc:AV m=0) (f6:zg w ok vc ch) (hi:zw m ch):
  Calls Tryz.prog 63 #[.agg #[.int .i64 m.w,.int .i64 m.h,.int .i64 m.l,f,u,ts],vc] w fun e w'=>∃vp,e=.returned (stv m f u ts vc vp (Bd m ch))/\za w w'/\PSt w' (fun b=>ok b\/w.heap.size<=b) m f u ts vc vp ch:=by
 have b9:=zh hm;have HL:=zh hl;have f1:=zh (Cp hc hi);have b5:=zh f6;obtain ⟨Af,cf,Au,cu,At,ct,e,-,-,g3⟩:=hm.parts;injection e with e;injection e with e;simp only [List.cons.injEq,and_true,true_and] at e;obtain ⟨rfl,rfl,rfl⟩:=e;have h9:=zh g3;obtain ⟨Ac,cc,rfl,-,-⟩:=f6;clear hm hl hc hi g3
 go_enter Tryz.func63,Tryz.ntmps63
 go_wp2_with fail
 obtain ⟨e1,r0,r1,r2,r3,r4,r5⟩:=box6 w (.int .i64 m.w) (.int .i64 m.h) (.int .i64 m.l) (.slice Af m.free.length cf) (.slice Au m.up.length cu) (.slice At m.tasks.length ct);have e8:(w.alloc (.cells #[.int .i64 m.w,.int .i64 m.h,.int .i64 m.l,.slice Af m.free.length cf,.slice Au m.up.length cu,.slice At m.tasks.length ct] 32)).heap.size=w.heap.size+1:=by simp
 generalize w.alloc _=w1 at e1 r0 r1 r2 r3 r4 r5 e8⊢;have D:=ze.new w1 #[.int .i64 0,.int .i64 0,.int .i64 0,.slice none 0 0,.slice none 0 0,.slice none 0 0,.slice none 0 0,.slice none 0 0,.int .i64 0] 107 (g:=w1.heap.size) rfl;have a9:za w1 (w1.alloc (.cells #[.int .i64 0,.int .i64 0,.int .i64 0,.slice none 0 0,.slice none 0 0,.slice none 0 0,.slice none 0 0,.slice none 0 0,.int .i64 0] 107)):=(za.refl w1).alloc _;generalize w1.alloc _=w2 at D a9⊢;rw [e8] at D;have a7:=zh (e1.trans a9);have U:=zh a9;have HZ:=zh D;obtain ⟨gm,e4⟩:=zaI w.heap.size;rw [<-e4] at r0 r1 r2 r3 r4 r5 HZ⊢;have a0:Hid (gm=w.heap.size):=e4;have r0:=fun W h=>r0 W (U.out.trans h)
 have r1:=fun W h=>r1 W (U.out.trans h)
 have r2:=fun W h=>r2 W (U.out.trans h)
 have r3:=fun W h=>r3 W (U.out.trans h)
 have r4:=fun W h=>r4 W (U.out.trans h)
 have r5:=fun W h=>r5 W (U.out.trans h)
 clear e4 e8 D e1 a9;refine (rPathsY_calls (Y:=fun b=>ok b/\b<w.heap.size) w2 (b9.out.bound.below a7.out) HL.out (b5.out.below a7.out) (by have:=f1.out;omega)).mono ?_;rintro e w3 ⟨vp,rfl,d6,b2⟩;have b2:=b2.weaken (fun b I=>(by have:=a0.out;have:=HZ.out;have:=zd this;have:=a7.out.size;exact ⟨I.imp (fun h=>h.1) (fun h=>by omega),by omega⟩:(ok b\/w.heap.size<=b)/\b≠gm+1));have f2:=zh b2;obtain ⟨vps,⟨Ap,cp,rfl,-,g0⟩,f7⟩:=b2;have f3:=zh g0;have h6:=zh f7;have M:=zh (a7.out.trans d6);clear g0 f7
 go_wp2_with fail
 have a8:=ze.new w3 #[.int .i64 m.w,.int .i64 m.h,.int .i64 m.l,.slice Af m.free.length cf,.slice Au m.up.length cu,.slice At m.tasks.length ct,.slice Ac ch.length cc,.slice Ap (zq m ch).length cp,.int .i64 0] 107 (g:=w3.heap.size) rfl;have e2:za w3 (w3.alloc (.cells #[.int .i64 m.w,.int .i64 m.h,.int .i64 m.l,.slice Af m.free.length cf,.slice Au m.up.length cu,.slice At m.tasks.length ct,.slice Ac ch.length cc,.slice Ap (zq m ch).length cp,.int .i64 0] 107)):=(za.refl w3).alloc _;generalize w3.alloc _=w4 at a8 e2⊢;obtain ⟨gs,e5⟩:=zaI w3.heap.size;rw [<-e5] at a8⊢;have h7:Hid (gs=w3.heap.size):=e5;have g7:=zh e2;have f0:=zh a8;have b8:=zh d6;obtain ⟨PL,d9⟩:=zaI ((zq m ch).length);rw [<-d9] at f3 f0⊢;have V:=zh d9;clear e5 a8 e2 d6 d9;go_loopw [18] (fun _ wr=>∃k:Nat,k<=PL/\Hid (curF m (zq m ch) (PL - k) k=Bd m ch)/\Hid (za w3 wr)/\Hid (ze wr gs 107 #[.int .i64 m.w,.int .i64 m.h,.int .i64 m.l,.slice Af m.free.length cf,.slice Au m.up.length cu,.slice At m.tasks.length ct,.slice Ac ch.length cc,.slice Ap PL cp,.int .i64 k])) (fun _ wr=>match wr.cell? ⟨gs,8,none⟩ with | some (.int _ i)=>PL - i.toNat | _=>0)
 case atStart=>exact ⟨0,FN _,by show _=_;rw [V.out];rfl,g7.out,f0.out⟩
 case round=>
  obtain ⟨k,hk,a3,hE,hB⟩:=hrel;have c0:=hB.out.cell (k:=0) rfl;have c1:=hB.out.cell (k:=1) rfl;have c2:=hB.out.cell (k:=2) rfl;have c3:=hB.out.cell (k:=3) rfl;have c4:=hB.out.cell (k:=4) rfl;have c5:=hB.out.cell (k:=5) rfl;have c6:=hB.out.cell (k:=6) rfl;have c7:=hB.out.cell (k:=7) rfl;have c8:=hB.out.cell (k:=8) rfl;by_cases a6:k<PL
  ·obtain ⟨k6,l0,-,f9⟩:=f1.out;have a5:k<m.tasks.length:=by have:=V.out;omega
   have b0:k<(zq m ch).length:=by have:=V.out;omega
   obtain ⟨bt,offt,sn,u1,u2,rfl,-,-,-,f5,-,e6⟩:=Bz h9.out a5;obtain ⟨bp,offp,up,rfl,-,e3,g4⟩:=AW f3.out h6.out a6 b0;obtain ⟨b1,b3⟩:=f9 _ (Fz b0);have i3:=(HL.out.tl _ (Fz a5)).2
   have O:Hid (endB m (zq m ch) k=match ((zq m ch)[k]).getLast? with | none=>false | some x=>decide (x∈(m.tasks[k]).2)):=by
    show _=_;unfold endB;rw [Fx,Fw b0,Fx,Fw a5];rfl
   obtain ⟨P,hP⟩:=zaI ((zq m ch)[k]);obtain ⟨T,hT⟩:=zaI ((m.tasks[k]).2);rw [<-hP] at g4 b1 b3 O;rw [<-hT] at e6 i3 O;clear hP hT f9;obtain ⟨q,x,rfl⟩:∃q x,P=q++[x]:=⟨P.dropLast,P.getLast b1,(List.dropLast_concat_getLast b1).symm⟩
   have b7:Hid (endB m (zq m ch) k=decide (x∈T)):=by
    have:=O.out;rw [List.getLast?_append] at this;exact this
   clear O b1;obtain ⟨Aq,cq,rfl,i1,g1⟩:=g4;obtain ⟨bq,offq,e,-,a4⟩:=Ai g1 (k:=q.length) (by simp) (by simp);have a4:w3.cell? ⟨bq,offq+q.length,none⟩=some (.int .i64 x):=by rw [a4];simp
   subst e;obtain ⟨N,hN⟩:=zaI ((q++[x]).length);obtain ⟨n,hn⟩:=zaI q.length;have f4:N=n+1:=by rw [hN,hn];simp
   rw [<-hN] at e3 b3;rw [<-hn] at a4;clear g1 i1 hN hn;have h8:=zh ((e6.below M.out).below hE.out);obtain ⟨Au2,cu2,rfl,-,-⟩:=e6;have q5:=za.rule (r5 wr (b8.out.trans hE.out));have q8:=za.rule c8;have g8:=zh c8;have qt:=za.rule (hE.out.cell (M.out.cell f5));have qp:=za.rule (hE.out.cell e3);have qx:=za.rule (hE.out.cell a4);have hx:za wr wr:=za.refl wr;have j6:=zh r5;clear r0 r1 r2 r3 r4 r5 c0 c1 c2 c3 c4 c5 c6 c7 f5 e3 a4;have j8:(k:Int)<(PL:Int):=by omega
   have j7:(0:Int)<=(k:Int):=by omega
   have j9:(k:Int)<(m.tasks.length:Int):=by omega
   have k7:(0:Int)<=(n:Int):=by omega
   have k8:(n:Int)<(N:Int):=by omega
   have k9:IntKind.i64.wrap ((N:Int) - 1)=(n:Int):=by rw [zag];omega
   have k5:IntKind.i64.wrap ((k:Int)+1)=(k:Int)+1:=by rw [zag];omega
   have j5:=zh f4;have j4:=zh a5;clear f4 a5 b0
   go_wp2_with fail
   go_quiet ((go_at_call 130;refine (Bo x _ (h8.out.below ((za.refl wr).drewN _)) (by omega)).mono ?_;rintro e w9 ⟨rfl,rfl⟩;exact ⟨rfl,⟨_,rfl⟩⟩))
   have E:Hid (ze (wr.drewN nq) gs _ _):=hB.out.ext ((za.refl wr).drewN _);have J:Hid (za w3 (wr.drewN nq)):=hE.out.drewN _;have g9:Hid (∀h:za wr (wr.drewN nq),za wr (wr.drewN nq)):=fun h=>h
   generalize wr.drewN nq=WX at E J g9⊢;obtain ⟨d,hd⟩:=zaI (decide (x∈T));rw [<-hd] at b7⊢;clear hd;have c8:=E.out.cell (k:=8) rfl;have f8:=E.out.frozen 8
   cases d with
   | true=>
    clear q5 q8 qt qp qx hx
    go_wp2_with fail
    have c9:=E.out.set (k:=8) (.int .i64 ((k:Int)+1));have d7:za w3 (WX.setCell ⟨gs,8,none⟩ (.int .i64 ((k:Int)+1))):=J.out.setCell (p:=⟨gs,8,none⟩) (by rw [h7.out];exact Fy _) _;generalize WX.setCell ⟨gs,8,none⟩ (.int .i64 ((k:Int)+1))=w6 at c9 d7⊢;have h5:=zh d7;have e9:=zh c9;clear d7 c9;go_roundw
    case rel=>exact ⟨k+1,by omega,by
     show _=_;have:=a3.out;rw [show PL - k=(PL - (k+1))+1 from by omega,curF,if_pos ⟨by have:=V.out;omega,b7.out⟩] at this;exact this,h5.out,by have:=e9.out;exact this⟩
    case measure=>
     have h1:w6.cell? ⟨gs,8,none⟩=some (.int .i64 ((k:Int)+1)):=e9.out.cell (k:=8) rfl;have h2:wr.cell? ⟨gs,8,none⟩=some (.int .i64 k):=g8.out;simp only [h1,h2];omega
   | false=>
    have b6:Hid (Bd m ch=k):=by
     show _=_;have:=a3.out;rw [show PL - k=(PL - (k+1))+1 from by omega,curF,if_neg (by rw [b7.out];simp)] at this;exact this.symm
    clear q5 q8 qt qp qx hx c8 f8;have D:ze WX (gm+1) 107 _:=HZ.out.ext (b8.out.trans J.out);have z0:=D.cell (k:=0) rfl;have z1:=D.cell (k:=1) rfl;have z2:=D.cell (k:=2) rfl;have z3:=D.cell (k:=3) rfl;have z4:=D.cell (k:=4) rfl;have z5:=D.cell (k:=5) rfl;have z6:=D.cell (k:=6) rfl;have z7:=D.cell (k:=7) rfl;have z8:=D.cell (k:=8) rfl;have c0:=E.out.cell (k:=0) rfl;have c1:=E.out.cell (k:=1) rfl;have c2:=E.out.cell (k:=2) rfl;have c3:=E.out.cell (k:=3) rfl;have c4:=E.out.cell (k:=4) rfl;have c5:=E.out.cell (k:=5) rfl;have c6:=E.out.cell (k:=6) rfl;have c7:=E.out.cell (k:=7) rfl;have c8:=E.out.cell (k:=8) rfl;have hfz:∀j,WX.frozen? ⟨gm+1,j,none⟩=false:=fun j=>D.frozen j
    have b4:=zh D;clear D
    go_wp2_with fail
    refine case_fin9 (P:=fun W=>bodyPost Tryz.prog Tryz.f63 _ Exit.ret _ W) (g2:=gm+1) ?_ b4.out;intro WZ G d8 e7;have y0:=G.cell (k:=0) rfl;have y1:=G.cell (k:=1) rfl;have y2:=G.cell (k:=2) rfl;have y3:=G.cell (k:=3) rfl;have y4:=G.cell (k:=4) rfl;have y5:=G.cell (k:=5) rfl;have y6:=G.cell (k:=6) rfl;have y7:=G.cell (k:=7) rfl;have y8:=G.cell (k:=8) rfl;refine za5 (v:=stv m (.slice Af m.free.length cf) (.slice Au m.up.length cu) (.slice (some ⟨bt,offt,none⟩) m.tasks.length ct) (.slice Ac ch.length cc) (.slice (some ⟨bp,offp,none⟩) PL cp) k) (by simp [results,Tryz.results63,go_sem,y0,y1,y2,y3,y4,y5,y6,y7,y8,stv]) rfl ⟨_,by rw [b6.out],?_,?_⟩
    ·exact Below.trans (M.out.trans J.out) (d8.mono (by have:=a0.out;omega))
    ·have hS:Ao (fun b=>(ok b\/w.heap.size<=b)/\b≠gm+1) WX WZ:=fun b I a6=>e7 b a6 I.2
     have a2:∀{b},b<w.heap.size->b≠gm+1:=fun I=>by have:=a0.out;omega
     refine ⟨?_,?_,?_⟩
     ·exact ((((b9.out.bound).keep (Ao.of_below (M.out.trans J.out))).weaken (fun b I=>⟨.inl I.1,a2 I.2⟩)).keep hS).weaken (fun _ I=>I.1)
     ·exact ((((b5.out.bound).keep (Ao.of_below (M.out.trans J.out))).weaken (fun b I=>⟨.inl I.1,a2 I.2⟩)).keep hS).weaken (fun _ I=>I.1)
     ·exact ((V.out ▸ f2.out.below J.out:zU WX (fun b=>(ok b\/w.heap.size<=b)/\b≠gm+1) _ (zq m ch)).keep hS).weaken (fun _ I=>I.1)
  ·have j3:¬ ((k:Int)<(PL:Int)):=by omega
   have b6:Hid (Bd m ch=k):=by
    show _=_;have:=a3.out;rw [show PL - k=0 from by omega,curF] at this;exact this.symm
   have q8:=za.rule c8;have hx:za wr wr:=za.refl wr;clear c0 c1 c2 c3 c4 c5 c6 c7 r0 r1 r2 r3 r4 r5
   go_wp2_with fail
   go_quiet (fail)
   have E:Hid (ze (wr.drewN nq) gs _ _):=hB.out.ext ((za.refl wr).drewN _);have J:Hid (za w3 (wr.drewN nq)):=hE.out.drewN _;clear q8 hx c8;generalize wr.drewN nq=WX at E J⊢;have D:ze WX (gm+1) 107 _:=HZ.out.ext (b8.out.trans J.out);have z0:=D.cell (k:=0) rfl;have z1:=D.cell (k:=1) rfl;have z2:=D.cell (k:=2) rfl;have z3:=D.cell (k:=3) rfl;have z4:=D.cell (k:=4) rfl;have z5:=D.cell (k:=5) rfl;have z6:=D.cell (k:=6) rfl;have z7:=D.cell (k:=7) rfl;have z8:=D.cell (k:=8) rfl;have c0:=E.out.cell (k:=0) rfl;have c1:=E.out.cell (k:=1) rfl;have c2:=E.out.cell (k:=2) rfl;have c3:=E.out.cell (k:=3) rfl;have c4:=E.out.cell (k:=4) rfl;have c5:=E.out.cell (k:=5) rfl;have c6:=E.out.cell (k:=6) rfl;have c7:=E.out.cell (k:=7) rfl;have c8:=E.out.cell (k:=8) rfl;have hfz:∀j,WX.frozen? ⟨gm+1,j,none⟩=false:=fun j=>D.frozen j
   have b4:=zh D;clear D
   go_wp2_with fail
   refine case_fin9 (P:=fun W=>bodyPost Tryz.prog Tryz.f63 _ Exit.ret _ W) (g2:=gm+1) ?_ b4.out;intro WZ G d8 e7;have y0:=G.cell (k:=0) rfl;have y1:=G.cell (k:=1) rfl;have y2:=G.cell (k:=2) rfl;have y3:=G.cell (k:=3) rfl;have y4:=G.cell (k:=4) rfl;have y5:=G.cell (k:=5) rfl;have y6:=G.cell (k:=6) rfl;have y7:=G.cell (k:=7) rfl;have y8:=G.cell (k:=8) rfl;refine za5 (v:=stv m (.slice Af m.free.length cf) (.slice Au m.up.length cu) (.slice At m.tasks.length ct) (.slice Ac ch.length cc) (.slice Ap PL cp) k) (by simp [results,Tryz.results63,go_sem,y0,y1,y2,y3,y4,y5,y6,y7,y8,stv]) rfl ⟨_,by rw [b6.out],?_,?_⟩
   ·exact Below.trans (M.out.trans J.out) (d8.mono (by have:=a0.out;omega))
   ·have hS:Ao (fun b=>(ok b\/w.heap.size<=b)/\b≠gm+1) WX WZ:=fun b I a6=>e7 b a6 I.2
    have a2:∀{b},b<w.heap.size->b≠gm+1:=fun I=>by have:=a0.out;omega
    refine ⟨?_,?_,?_⟩
    ·exact ((((b9.out.bound).keep (Ao.of_below (M.out.trans J.out))).weaken (fun b I=>⟨.inl I.1,a2 I.2⟩)).keep hS).weaken (fun _ I=>I.1)
    ·exact ((((b5.out.bound).keep (Ao.of_below (M.out.trans J.out))).weaken (fun b I=>⟨.inl I.1,a2 I.2⟩)).keep hS).weaken (fun _ I=>I.1)
    ·exact ((V.out ▸ f2.out.below J.out:zU WX (fun b=>(ok b\/w.heap.size<=b)/\b≠gm+1) _ (zq m ch)).keep hS).weaken (fun _ I=>I.1)
theorem box9 (w:World) (a0 a1 a2 a3 a4 a5 a6 a7 a8:Value):za w (w.alloc (.cells #[a0,a1,a2,a3,a4,a5,a6,a7,a8] 107))/\
  (∀W,za (w.alloc (.cells #[a0,a1,a2,a3,a4,a5,a6,a7,a8] 107)) W->W.cell? ⟨w.heap.size,0,none⟩=some a0)/\(∀W,za (w.alloc (.cells #[a0,a1,a2,a3,a4,a5,a6,a7,a8] 107)) W->W.cell? ⟨w.heap.size,1,none⟩=some a1)/\(∀W,za (w.alloc (.cells #[a0,a1,a2,a3,a4,a5,a6,a7,a8] 107)) W->W.cell? ⟨w.heap.size,2,none⟩=some a2)/\(∀W,za (w.alloc (.cells #[a0,a1,a2,a3,a4,a5,a6,a7,a8] 107)) W->W.cell? ⟨w.heap.size,3,none⟩=some a3)/\(∀W,za (w.alloc (.cells #[a0,a1,a2,a3,a4,a5,a6,a7,a8] 107)) W->W.cell? ⟨w.heap.size,4,none⟩=some a4)/\(∀W,za (w.alloc (.cells #[a0,a1,a2,a3,a4,a5,a6,a7,a8] 107)) W->W.cell? ⟨w.heap.size,5,none⟩=some a5)/\(∀W,za (w.alloc (.cells #[a0,a1,a2,a3,a4,a5,a6,a7,a8] 107)) W->W.cell? ⟨w.heap.size,6,none⟩=some a6)/\(∀W,za (w.alloc (.cells #[a0,a1,a2,a3,a4,a5,a6,a7,a8] 107)) W->W.cell? ⟨w.heap.size,7,none⟩=some a7)/\(∀W,za (w.alloc (.cells #[a0,a1,a2,a3,a4,a5,a6,a7,a8] 107)) W->W.cell? ⟨w.heap.size,8,none⟩=some a8):=by
 have D:=ze.new w #[a0,a1,a2,a3,a4,a5,a6,a7,a8] 107 rfl;exact ⟨(za.refl w).alloc _,za.rule (D.cell (k:=0) rfl),za.rule (D.cell (k:=1) rfl),za.rule (D.cell (k:=2) rfl),za.rule (D.cell (k:=3) rfl),za.rule (D.cell (k:=4) rfl),za.rule (D.cell (k:=5) rfl),za.rule (D.cell (k:=6) rfl),za.rule (D.cell (k:=7) rfl),za.rule (D.cell (k:=8) rfl)⟩
theorem PSt.parts {w:World} {ok:Nat->Prop} {m:MZ} {f u ts vc vp:Value} {ch:List Int} (h:PSt w ok m f u ts vc vp ch):∃Af cf Au cu At ct Ac cc Ap cp,f=.slice Af m.free.length cf/\u=.slice Au m.up.length cu/\ts=.slice At m.tasks.length ct/\vc=.slice Ac ch.length cc/\vp=.slice Ap (zq m ch).length cp/\
  BG w ok (.slice Af m.free.length cf) m.free/\Cv w ok (.slice At m.tasks.length ct) m.tasks:=by
 obtain ⟨Af,cf,Au,cu,At,ct,e,hf,-,D⟩:=h.maze.parts;injection e with e;injection e with e;simp only [List.cons.injEq,and_true,true_and] at e;obtain ⟨rfl,rfl,rfl⟩:=e;obtain ⟨Ac,cc,rfl,-,-⟩:=h.chs;obtain ⟨_,⟨Ap,cp,rfl,-,-⟩,-⟩:=h.ps;exact ⟨Af,cf,Au,cu,At,ct,Ac,cc,Ap,cp,rfl,rfl,rfl,rfl,rfl,hf,D⟩
theorem pcomplete_calls (t:Int) (w:World) (h:PSt w ok m f u ts vc vp ch):
  Calls Tryz.prog 131 #[stv m f u ts vc vp t] w fun e w'=>e=.returned (.bool (decide ((m.tasks.length:Int)<=t)))/\za w w':=by
 obtain ⟨Af,cf,Au,cu,At,ct,Ac,cc,Ap,cp,rfl,rfl,rfl,rfl,rfl,-,-⟩:=h.parts;clear h;unfold stv
 go_enter Tryz.func131,Tryz.ntmps131
 go_wp2_with fail
 obtain ⟨D,r0,r1,r2,r3,r4,r5,r6,r7,r8⟩:=box9 w (.int .i64 m.w) (.int .i64 m.h) (.int .i64 m.l) (.slice Af m.free.length cf) (.slice Au m.up.length cu) (.slice At m.tasks.length ct) (.slice Ac ch.length cc) (.slice Ap (zq m ch).length cp) (.int .i64 t);generalize w.alloc _=w1 at D r0 r1 r2 r3 r4 r5 r6 r7 r8⊢;obtain ⟨gm,E⟩:=zaI w.heap.size;rw [<-E] at r0 r1 r2 r3 r4 r5 r6 r7 r8⊢;clear E;have I:za w1 w1:=za.refl w1;have G:=zh D;clear D
 go_wp2_with fail
 go_ret;exact ⟨rfl,G.out⟩
theorem popen_calls (t:Int) (tk:Nat) (n:Int) (w:World) (h:PSt w ok m f u ts vc vp ch) (g:zZ m) (U:ch.length<=20000000000000) (V:tk<m.free.length) (h0:0<=n) (h1:n<m.n):
  Calls Tryz.prog 191 #[stv m f u ts vc vp t,.int .i64 tk,.int .i64 n] w fun e w'=>e=.returned (.bool (zj m tk n && !decide (n∈ch)))/\za w w':=by
 have H:=zh h;obtain ⟨Af,cf,Au,cu,At,ct,Ac,cc,Ap,cp,rfl,rfl,rfl,rfl,rfl,hf,-⟩:=h.parts;obtain ⟨b,off,b',off',l,c',rfl,I,hl,a2,a1,G⟩:=freeCells hf g.fn V h0 h1;have HC:=zh h.chs;clear h hf g;obtain ⟨fv,J⟩:=zaI (zj m tk n);rw [<-J] at G⊢;clear J;have k0:(0:Int)<=(tk:Int):=by omega
 have k1:(tk:Int)<(m.free.length:Int):=by omega
 have a3:off'+n.toNat=off'+n.toNat:=rfl;unfold stv
 go_enter Tryz.func191,Tryz.ntmps191
 go_upto_region 1 with fail;obtain ⟨E,r0,r1,r2,r3,r4,r5,r6,r7,r8⟩:=box9 w (.int .i64 m.w) (.int .i64 m.h) (.int .i64 m.l) (.slice (some ⟨b,off,none⟩) m.free.length cf) (.slice Au m.up.length cu) (.slice At m.tasks.length ct) (.slice Ac ch.length cc) (.slice Ap (zq m ch).length cp) (.int .i64 t);generalize w.alloc _=w1 at E r0 r1 r2 r3 r4 r5 r6 r7 r8⊢;obtain ⟨gm,M⟩:=zaI w.heap.size;rw [<-M] at r0 r1 r2 r3 r4 r5 r6 r7 r8⊢;clear M;have hx:za w1 w1:=za.refl w1;have D:=zh E;clear E;have q1:=za.rule (D.out.cell I);have q2:=za.rule (D.out.cell G);have O:=zh (HC.out.below D.out);clear I G
 cases fv with
 | false=>
  go_wp2_with fail
  go_ret;exact ⟨rfl,D.out⟩
 | true=>
  go_wp2_with fail
  refine (Bo n w1 O.out U).mono ?_;rintro e w9 ⟨rfl,rfl⟩
  go_wp2_with fail
  go_ret;exact ⟨rfl,D.out⟩
theorem phead_calls (t:Int) (tk:Nat) (w:World) (h:PSt w ok m f u ts vc vp ch) (hl:Lens m) (hc:AV m=0) (hi:zw m ch) (a0:tk<m.tasks.length):
  Calls Tryz.prog 171 #[stv m f u ts vc vp t,.int .i64 tk] w fun e w'=>∃v',e=.returned v'/\za w w'/\zg w' (fun _=>True) v' (Cx m ch tk):=by
 have H:=zh h;have a5:=Cp hc hi;have G:=zh (zZ.of hc);have HL:=zh hl;have f3:=zh G.out.fl;obtain ⟨_,g9,_⟩:=h.ps;have b8:=‹∀(i:Nat) x,(zq m ch)[i]?=some x->_›;obtain ⟨Af,cf,Au,cu,At,ct,Ac,cc,Ap,cp,rfl,rfl,rfl,rfl,rfl,hf,d7⟩:=h.parts;obtain ⟨_,_,e,-,d5⟩:=g9;injection e with e1 e2 e3;subst e1 e3;have f9:=zh d7;have b3:=zh d5;have f2:=zh b8;obtain ⟨PL,hP⟩:=zaI ((zq m ch).length);rw [<-hP] at b3 H;clear h hf d7 d5 b8 hl hc;unfold stv;rw [<-hP];by_cases g7:tk<PL
 ·obtain ⟨i2,h8,-,c8⟩:=a5;have V:tk<(zq m ch).length:=by omega
  obtain ⟨bp,offp,up,rfl,-,a6,d8⟩:=AW b3.out f2.out g7 V;obtain ⟨a3,a4⟩:=c8 _ (Fz V)
  have J:Hid (Cx m ch tk=((zq m ch)[tk]).getLast?.toList):=by
   show _=_;unfold Cx;rw [if_pos V,Fx,Fw V];rfl
  obtain ⟨P,b6⟩:=zaI ((zq m ch)[tk]);rw [<-b6] at d8 a3 a4 J;clear b6 c8 hi;obtain ⟨q,x,rfl⟩:∃q x,P=q++[x]:=⟨P.dropLast,P.getLast a3,(List.dropLast_concat_getLast a3).symm⟩;obtain ⟨Aq,cq,rfl,a7,d6⟩:=d8;obtain ⟨bq,offq,e,-,a2⟩:=Ai d6 (k:=q.length) (by simp) (by simp);have a2:w.cell? ⟨bq,offq+q.length,none⟩=some (.int .i64 x):=by rw [a2];simp
  subst e;obtain ⟨N,hN⟩:=zaI ((q++[x]).length);obtain ⟨n,hn⟩:=zaI q.length;have b5:N=n+1:=by rw [hN,hn];simp
  rw [<-hN] at a6 a4 a7;rw [<-hn] at a2
  have f4:Hid (Cx m ch tk=[x]):=by
   show _=_;rw [J.out,List.getLast?_append];rfl
  clear d6 hN hn J a3 hP;have k0:(0:Int)<=(tk:Int):=by omega
  have k1:(tk:Int)<(PL:Int):=by omega
  have i7:IntKind.i64.wrap ((N:Int) - 1)=(n:Int):=by rw [zag];omega
  have i3:(0:Int)<=(n:Int):=by omega
  have i4:(n:Int)<=(N:Int):=by omega
  have i5:N - n=1:=by omega
  have i6:(N:Int)<=(cq:Int):=by omega
  have HQ:=zh b5;have f1:=zh a7
  go_enter Tryz.func171,Tryz.ntmps171
  go_upto_region 1 with fail;obtain ⟨I,r0,r1,r2,r3,r4,r5,r6,r7,r8⟩:=box9 w (.int .i64 m.w) (.int .i64 m.h) (.int .i64 m.l) (.slice Af m.free.length cf) (.slice Au m.up.length cu) (.slice At m.tasks.length ct) (.slice Ac ch.length cc) (.slice (some ⟨bp,offp,none⟩) PL cp) (.int .i64 t);generalize w.alloc _=w1 at I r0 r1 r2 r3 r4 r5 r6 r7 r8⊢;obtain ⟨gm,U⟩:=zaI w.heap.size;rw [<-U] at r0 r1 r2 r3 r4 r5 r6 r7 r8⊢;clear U;have hx:za w1 w1:=za.refl w1;have E:=zh I;clear I;have qp:=za.rule (E.out.cell a6);clear a6 b5 a7 V
  go_wp2_with fail
  go_ret;refine ⟨_,rfl,E.out,?_⟩;rw [f4.out];refine ⟨_,_,rfl,by have:=HQ.out;have:=f1.out;show 1<=_;omega,rfl,fun _=>⟨bq,offq+n,rfl,trivial,fun j u hu=>?_⟩⟩
  match j,hu with
  | 0,hu=>
   have:u=.int .i64 x:=by simpa using hu.symm
   rw [this];exact E.out.cell a2
 ·obtain ⟨bt,offt,sn,u1,u2,rfl,-,-,b7,-,a8,-⟩:=Bz f9.out a0;have b0:=fun x hx=>G.out.tn _ (Fz a0) x (.inl hx)
  have b9:=(HL.out.tl _ (Fz a0)).1
  have J:Hid (Cx m ch tk=((m.tasks[tk]).1).filter fun n=>zj m tk n && !decide (n∈ch)):=by
   show _=_;unfold Cx;rw [if_neg (by omega),Fx,Fw a0];rfl
  obtain ⟨L,hL⟩:=zaI ((m.tasks[tk]).1);rw [<-hL] at a8 b0 b9 J;clear hL;have f8:=zh b0;have f0:Hid (ch.length<=300):=a5.2.2.1;have f7:Hid (tk<m.free.length):=by show _<_;rw [f3.out];exact a0
  have k0:(0:Int)<=(tk:Int):=by omega
  have k1:(tk:Int)<(m.tasks.length:Int):=by omega
  have k2:¬ ((tk:Int)<(PL:Int)):=by omega
  clear b0 a5 hi hP;obtain ⟨p,a9⟩:∃p:Int->Bool,p=fun n=>zj m tk n && !decide (n∈ch):=⟨_,rfl⟩
  rw [<-a9] at J;have f6:=zh a9;clear a9
  go_enter Tryz.func171,Tryz.ntmps171
  go_upto_region 1 with fail;obtain ⟨I,r0,r1,r2,r3,r4,r5,r6,r7,r8⟩:=box9 w (.int .i64 m.w) (.int .i64 m.h) (.int .i64 m.l) (.slice Af m.free.length cf) (.slice Au m.up.length cu) (.slice (some ⟨bt,offt,none⟩) m.tasks.length ct) (.slice Ac ch.length cc) (.slice Ap PL cp) (.int .i64 t);generalize w.alloc _=w1 at I r0 r1 r2 r3 r4 r5 r6 r7 r8⊢;obtain ⟨gm,U⟩:=zaI w.heap.size;rw [<-U] at r0 r1 r2 r3 r4 r5 r6 r7 r8⊢;clear U;have hx:za w1 w1:=za.refl w1;have E:=zh I;clear I;have qt:=za.rule (E.out.cell b7);have f5:=zh (a8.below E.out);obtain ⟨Al,cl,rfl,i1,-⟩:=a8;clear b7
  go_wp2_with fail
  have b2:=zh (Mk.nil w1);go_loopw [4,31] (fun v i wr=>∃k:Nat,k<=L.length/\i=.int .i64 (k:Nat)/\Hid (Mk w1 wr v ((L.take k).filter p))) (fun _ i _=>L.length - (intOf i).toNat)
  case atStart=>exact ⟨0,FN _,rfl,b2⟩
  clear b2
  case round=>
   obtain ⟨k,hk,rfl,hM⟩:=hrel;have hx:za w1 wr:=hM.out.ext;obtain ⟨wk,rfl⟩:∃wk:World,wk=wr:=⟨_,rfl⟩;by_cases M:k<L.length
   ·obtain ⟨A',c',e,-,c9⟩:=f5.out;injection e with e1 e2 e3;subst e1 e3;obtain ⟨bl,offl,rfl,-,D⟩:=Ai c9 M M;clear c9;obtain ⟨d9,e0⟩:=f8.out _ (Fz M);have a1:=FF M;obtain ⟨x,e5⟩:=zaI (L[k]);rw [<-e5] at D d9 e0 a1;clear e5;have HT:=zh a1;have D:wk.cell? ⟨bl,offl+k,none⟩=some (.int .i64 x):=hx.cell D;clear a1;have kk0:(0:Int)<=(k:Int):=by omega
    have kk1:(k:Int)<(L.length:Int):=by omega
    go_wp2_with fail
    refine (popen_calls t tk x wk ((H.out.more E.out).more hx) G.out (by have:=f0.out;omega) f7.out d9 e0).mono ?_;rintro e w9 ⟨rfl,b4⟩;have O:=zh (hM.out.more b4);have e4:=O.out.ext;have hp:p x=(zj m tk x && !decide (x∈ch)):=by rw [f6.out]
    rw [<-hp];clear hp D b4;have g6:((L.take k).filter p).length<=L.length:=FA (zan _ _) (by simp;omega)
    cases hb:p x with
    | true=>
     have HS:Hid ((L.take (k+1)).filter p=(L.take k).filter p++[x]):=by show _=_;rw [HT.out,zay,za4 hb];rfl
     clear hb;obtain ⟨l,c6⟩:=zaI ((L.take k).filter p);rw [<-c6] at O g6 HS;clear c6
     go_wp2_with (at_builtin;refine AZ rfl _ _ rfl _ l x w1.heap.size w9.heap.size 1 _ rfl rfl (O.out.own.alloc _) ?d1 ?d2 ?d3 ?_)
     (try case d1=>exact zy _ _ _ (by simp))
     case d2=>(first | (simp;done) | (have:=e4.size;simp;omega) | (have:=e4.size;omega))
     case d3=>omega
     intro v' wb c7 c0 g3;have g0:=zh ((O.out.alloc _).app c7 c0);clear c7 c0 g3;go_wp2;go_roundw
     case rel=>exact ⟨k+1,by omega,by go_num,by rw [HS.out];exact g0⟩
     case measure=>simp [intOf];omega
    | false=>
     have HS:Hid ((L.take (k+1)).filter p=(L.take k).filter p):=by show _=_;rw [HT.out,zay,zas (by rw [hb];simp),List.filter_nil,List.append_nil]
     clear hb;go_wp2;go_roundw
     case rel=>exact ⟨k+1,by omega,by go_num,by rw [HS.out];exact O⟩
     case measure=>simp [intOf];omega
   ·obtain rfl:k=L.length:=by omega
    go_wp2;go_ret;refine ⟨_,rfl,E.out.trans hM.out.ext,?_⟩;rw [J.out];have:=hM.out;rw [FJ] at this;exact this.ints.weaken (fun _ _=>trivial)
theorem endB_none (h:pp.getD t []=[]):endB m pp t=false:=by
 unfold endB;rw [h];rfl
theorem endB_snoc {q:List Int} {x:Int} (h:pp.getD t []=q++[x]):endB m pp t=decide (x∈(m.tasks.getD t ([],[])).2):=by
 unfold endB;rw [h,List.getLast?_append];rfl
theorem vfinished_calls (t:Nat) (w:World) (hm:zL w ok v m) (hl:Lens m) (hp:zU w okp vp pp) (d5:pp.length<=m.tasks.length) (b2:∀x∈pp,x.length<=20000000000000):
  Calls Tryz.prog 178 #[v,vp,.int .i64 t] w fun e w'=>e=.returned (.bool (endB m pp t))/\za w w':=by
 obtain ⟨Af,cf,Au,cu,At,ct,rfl,-,-,b5⟩:=hm.parts;have c0:=zh b5;have HL:=zh hl;obtain ⟨vps,⟨Ap,cp,rfl,e3,b3⟩,a8⟩:=hp;have b9:=zh b3;have b6:=zh a8;have e1:=zh d5;have b8:=zh b2;have d8:(pp.length:Int)<=(m.tasks.length:Int):=by omega
 have f0:=hl.ts;clear hm hl b5 b3 a8 b2;obtain ⟨fb,a0⟩:=zaI (endB m pp t);rw [<-a0];have U:=zh a0;clear a0
 go_enter Tryz.func178,Tryz.ntmps178
 go_upto_region 1 with fail;obtain ⟨V,r0,r1,r2,r3,r4,r5⟩:=box6 w (.int .i64 m.w) (.int .i64 m.h) (.int .i64 m.l) (.slice Af m.free.length cf) (.slice Au m.up.length cu) (.slice At m.tasks.length ct);generalize w.alloc _=w1 at V r0 r1 r2 r3 r4 r5⊢;obtain ⟨gm,a9⟩:=zaI w.heap.size;rw [<-a9] at r0 r1 r2 r3 r4 r5⊢;clear a9;have D:=zh V;have hx:za w1 w1:=za.refl w1;clear V;have t0:(0:Int)<=(t:Int):=by omega
 by_cases M:t<pp.length
 ·have O:(t:Int)<(pp.length:Int):=by omega
  have I:t<m.tasks.length:=by omega
  have c8:(t:Int)<(m.tasks.length:Int):=by omega
  obtain ⟨bp,offp,up,rfl,-,J,a2⟩:=AW b9.out b6.out M M;have G:=b8.out _ (Fz M);have a1:pp.getD t []=pp[t]:=zgd M
  obtain ⟨P,a6⟩:=zaI (pp[t]);rw [<-a6] at a2 G a1;have a4:=zh a1;clear a6 a1;have rq:=za.rule (D.out.cell J);clear J;rcases (show P=[]\/∃q x,P=q++[x] from by by_cases h:P=[];exact .inl h;exact .inr ⟨_,_,(List.dropLast_concat_getLast h).symm⟩) with rfl | ⟨q,x,rfl⟩
  ·have HF:Hid (fb=false):=by show _=_;rw [U.out];exact endB_none a4.out
   obtain ⟨Aq,cq,rfl,-,-⟩:=a2;clear G
   go_wp2_with fail
   go_ret;exact ⟨zm HF.out.symm,D.out⟩
  ·obtain ⟨Aq,cq,rfl,J,b4⟩:=a2;obtain ⟨bq,offq,e,-,E⟩:=Ai b4 (k:=q.length) (by simp) (by simp);have E:w.cell? ⟨bq,offq+q.length,none⟩=some (.int .i64 x):=by rw [E];simp
   subst e;obtain ⟨bt,offt,sn,u1,u2,rfl,-,-,-,a7,-,b1⟩:=Bz c0.out I;have f1:=(HL.out.tl _ (Fz I)).2;have b0:m.tasks.getD t ([],[])=m.tasks[t]:=zgd I
   have HF:Hid (fb=decide (x∈(m.tasks[t]).2)):=by show _=_;rw [U.out,endB_snoc a4.out,b0]
   clear b0;obtain ⟨N,hN⟩:=zaI ((q++[x]).length);obtain ⟨n,hn⟩:=zaI q.length;have a5:N=n+1:=by rw [hN,hn];simp
   rw [<-hN] at rq G J;rw [<-hn] at E;have rx:=za.rule (D.out.cell E);have rt2:=za.rule (D.out.cell a7);have b7:=zh (b1.below D.out);obtain ⟨Au2,cu2,rfl,-,-⟩:=b1;have e9:IntKind.i64.wrap ((N:Int) - 1)=(n:Int):=by rw [zag];omega
   have e4:(0:Int)<=(n:Int):=by omega
   have e5:(n:Int)<(N:Int):=by omega
   have d6:¬ ((N:Int)=0):=by omega
   have e6:((N:Int)==0)=false:=by rw [FM];omega
   have e7:¬ ((pp.length:Int)<=(t:Int)):=by omega
   have e8:decide (pp.length<=t)=false:=FC (by omega);have HQ:=zh a5;clear b4 hN hn E a7 a5 d6
   go_wp2_with fail
   go_region_held3 (fun w'=>za w1 w') (first | (exact hx.drew) | assumption) ((go_at_call 73;refine (AO x _ (b7.out.below hx.drew) (by omega)).mono ?_;rintro e w9 ⟨rfl,rfl⟩))
   rename_i hS
   go_wp2_with fail
   go_ret;exact ⟨zm HF.out.symm,D.out.trans hS⟩
 ·have O:¬ ((t:Int)<(pp.length:Int)):=by omega
  have d7:(pp.length:Int)<=(t:Int):=by omega
  have HF:Hid (fb=false):=by
   show _=_;rw [U.out];exact endB_none (by rw [Fx,zae (by omega)];rfl)
  clear O
  go_wp2_with fail
  go_ret;exact ⟨zm HF.out.symm,D.out⟩
theorem Fl (w:World) (hm:zL w ok v m) (hl:Lens m) (hp:zU w okp vp pp) (a6:pp.length<=m.tasks.length) (M:∀x∈pp,x.length<=20000000000000):
  Calls Tryz.prog 119 #[v,vp] w fun e w'=>e=.returned (.int .i64 (curF m pp pp.length 0))/\za w w':=by
 have HM:=zh hm;have HL:=zh hl;have HP:=zh hp;have a0:=zh M;obtain ⟨Af,cf,Au,cu,At,ct,rfl,-,-,-⟩:=hm.parts;obtain ⟨vps,⟨Ap,cp,rfl,-,-⟩,-⟩:=hp;have b3:=hl.ts;clear hm hl M
 go_enter Tryz.func119,Tryz.ntmps119
 go_upto_region 1 with fail;obtain ⟨G,r0,r1,r2,r3,r4,r5⟩:=box6 w (.int .i64 m.w) (.int .i64 m.h) (.int .i64 m.l) (.slice Af m.free.length cf) (.slice Au m.up.length cu) (.slice At m.tasks.length ct);generalize w.alloc _=w1 at G r0 r1 r2 r3 r4 r5⊢;obtain ⟨gm,J⟩:=zaI w.heap.size;rw [<-J] at r0 r1 r2 r3 r4 r5⊢;clear J;have E:=zh G;clear G
 go_wp2_with fail
 obtain ⟨N,hN⟩:=zaI pp.length;have U:=zh hN;have b2:N<=20000000000000:=by omega
 rw [<-hN];clear hN;go_loopw [5] (fun i wr=>∃k:Nat,k<=N/\i=.int .i64 k/\Hid (curF m pp (N - k) k=curF m pp N 0)/\Hid (za w1 wr)) (fun i _=>N - (intOf i).toNat)
 case atStart=>exact ⟨0,FN _,rfl,rfl,za.refl w1⟩
 case round=>
  obtain ⟨k,hk,rfl,I,hE⟩:=hrel;obtain ⟨wk,rfl⟩:∃wk:World,wk=wr:=⟨_,rfl⟩;have hx:za w1 wk:=hE.out
  have HV:Hid (Calls Tryz.prog 178 #[.agg #[.int .i64 m.w,.int .i64 m.h,.int .i64 m.l,.slice Af m.free.length cf,.slice Au m.up.length cu,.slice At m.tasks.length ct],.slice Ap N cp,.int .i64 k] wk fun e w'=>e=.returned (.bool (endB m pp k))/\za wk w'):=by
   (show Calls _ _ _ _ _)
   rw [U.out];exact vfinished_calls k wk (HM.out.below (E.out.trans hx)) HL.out (HP.out.below (E.out.trans hx)) a6 a0.out
  go_wp2_with fail
  refine HV.out.mono ?_;rintro e w9 ⟨rfl,a1⟩;have O:za w1 w9:=za.trans ‹_› a1;obtain ⟨b,hb⟩:=zaI (endB m pp k);rw [<-hb];have V:=zh hb;clear hb HV
  cases b with
  | true=>
   have a5:k<N:=by
    rw [U.out];refine Decidable.byContradiction fun h=>?_
    have:=V.out;rw [endB_none (by rw [Fx,zae (by omega)];rfl)] at this;cases this
   have D:Hid (curF m pp (N - (k+1)) (k+1)=curF m pp N 0):=by
    show _=_;rw [<-I.out,show N - k=(N - (k+1))+1 from by omega]
    conv=>rhs;unfold curF
    rw [if_pos ⟨by rw [<-U.out];exact a5,V.out.symm⟩]
   have b4:IntKind.i64.wrap ((k:Int)+1)=(k:Int)+1:=by rw [zag];omega
   go_wp2_with fail
   go_roundw
   case rel=>exact ⟨k+1,by omega,by go_num,D,O⟩
   case measure=>simp [intOf];omega
  | false=>
   have D:Hid (curF m pp N 0=k):=by
    show _=_;rw [<-I.out]
    cases N - k with
    | zero=>rfl
    | succ n=>
     unfold curF;rw [if_neg (fun h=>by rw [<-V.out] at h;exact absurd h.2 (by simp))]
   go_wp2_with fail
   go_ret;exact ⟨(show Ending.returned (Value.int .i64 ((k:Nat):Int))=.returned (.int .i64 ((curF m pp pp.length 0:Nat):Int)) from by have h:=D.out;rw [U.out] at h;rw [h]),E.out.trans O⟩
theorem vComplete_calls (w:World) (hm:zL w ok v m) (hl:Lens m) (hc:AV m=0) (U:zg w okc vc ch) (hi:zw m ch):
  Calls Tryz.prog 117 #[v,vc] w fun e w'=>e=.returned (.bool (decide (m.tasks.length<=Bd m ch)))/\za w w':=by
 have HM:=zh hm;have HL:=zh hl;have HC:=zh hc;have HI:=zh hi;have a2:=zh U;have G:=zh (Cp hc hi);obtain ⟨Af,cf,Au,cu,At,ct,rfl,-,-,-⟩:=hm.parts;obtain ⟨Ac,cc,rfl,-,-⟩:=U;have b4:=hl.ts;clear hm hl hc hi;obtain ⟨c,M⟩:=zaI (Bd m ch);rw [<-M];have a3:=zh M;clear M
 go_enter Tryz.func117,Tryz.ntmps117
 go_upto_region 1 with fail;obtain ⟨J,r0,r1,r2,r3,r4,r5⟩:=box6 w (.int .i64 m.w) (.int .i64 m.h) (.int .i64 m.l) (.slice Af m.free.length cf) (.slice Au m.up.length cu) (.slice At m.tasks.length ct);generalize w.alloc _=w1 at J r0 r1 r2 r3 r4 r5⊢;obtain ⟨gm,V⟩:=zaI w.heap.size;rw [<-V] at r0 r1 r2 r3 r4 r5⊢;clear V;have D:=zh J;clear J;have hx:za w1 w1:=za.refl w1
 go_wp2_with fail
 refine (EJ w1 (HM.out.below D.out) HL.out (a2.out.below D.out) (by have:=G.out;omega)).mono ?_;rintro e w2 ⟨vp,rfl,I,a0⟩;have a4:=zh a0;have a1:za w1 w2:=I;obtain ⟨_,⟨Ap,cp,rfl,-,-⟩,-⟩:=a0
 have HV:Hid (∀W,za w2 W->Calls Tryz.prog 119 #[.agg #[.int .i64 m.w,.int .i64 m.h,.int .i64 m.l,.slice Af m.free.length cf,.slice Au m.up.length cu,.slice At m.tasks.length ct],.slice Ap (zq m ch).length cp] W fun e w'=>e=.returned (.int .i64 c)/\za W w'):=fun W hW=>by
  rw [a3.out];exact Fl W (HM.out.below ((D.out.trans I).trans hW)) HL.out (a4.out.below hW) G.out.1 (fun x hx=>by have:=(G.out.2.2.2 x hx).2;omega)
 clear I;obtain ⟨PL,E⟩:=zaI ((zq m ch).length);rw [<-E] at HV⊢;clear E;have hy:za w2 w2:=za.refl w2
 go_wp2_with fail
 go_region_held3 (fun w'=>za w1 w'/\za w2 w') (first | (exact ⟨a1.drew,hy.drew⟩) | (exact ⟨a1.drew.trans O,hy.drew.trans O⟩)) ((go_at_call 119;refine (HV.out _ hy.drew).mono ?_;rintro e w9 ⟨rfl,O⟩))
 rename_i hS
 go_wp2_with fail
 go_ret;exact ⟨by simp,D.out.trans hS.1⟩
end
end Go.Proofs.YtjomnbdjajjgfaaGreatDoor
