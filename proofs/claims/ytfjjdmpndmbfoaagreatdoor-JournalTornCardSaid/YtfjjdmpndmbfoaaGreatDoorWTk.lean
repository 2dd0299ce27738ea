import Derived.Test.YtfjjdmpndmbfoaaGreatDoorWTi
import Derived.Test.YtfjjdmpndmbfoaaGreatDoorWTj
set_option linter.unusedVariables false
set_option linter.unusedSimpArgs false
set_option maxRecDepth 100000
set_option maxHeartbeats 16000000
namespace Go.Proofs.YtfjjdmpndmbfoaaGreatDoor
variable {a:Act} {K:Act->World->Prop} {Q:Exit->Act->World->Prop} {ch p:List Int} {m:MZ} {B bytes cap g sz t:Nat} {ok:Nat->Prop} {o:Oper} {f ts u v vc z:Value} {W w w':World}
section
open Go.RowKit
theorem okC_of (d:BS m=0) (h:zG m ch):okC m ch=true:=by
 unfold okC;rw [DH d,AV.2 h];rfl
theorem curF_eq {m:MZ} {pp:List (List Int)} {c:Nat}:∀(f t:Nat),t<=c->c<=t+f->(∀j,t<=j->j<c->j<pp.length/\endB m pp j=true)->¬ (c<pp.length/\endB m pp c=true)->curF m pp f t=c
 | 0,t,h0,h1,_,_=>by unfold curF;omega
 | f+1,t,h0,h1,D,E=>by
  unfold curF;by_cases h:t=c
  ·subst h;rw [if_neg E]
  ·rw [if_pos (D t (DE _) (by omega))];exact curF_eq f (t+1) (by omega) (by omega) (fun j G d=>D j (by omega) d) E
theorem fin_last (h:zG m ch) (d:(Ao m ch).length<m.tasks.length):finB m (Ao m ch)=false:=by
 have D:∀l:List (List Int),finB m (l++[[]])=false:=fun l=>by
  unfold finB
  have:(l++[([]:List Int)]).getD ((l++[([]:List Int)]).length - 1) []=[]:=by
   rw [DM,Ed,Nat.add_sub_cancel,DD,DK (DE _)];simp
  rw [this];rfl
 cases h with
 | nil=>
  rw [psOf_nil] at d⊢;unfold ps0 at d⊢
  split
  ·rename_i h0;omega
  ·exact D []
 | @snoc ch n h E=>
  rw [psOf_snoc] at d⊢;unfold Bg at d⊢
  split
  ·exact D _
  ·rename_i h0
   rw [if_neg h0,Cr] at d
   cases hf:finB m (addN (Ao m ch) n) with
   | false=>rfl
   | true=>exact absurd ⟨hf,d⟩ h0
structure Cur (m:MZ) (ch:List Int) (qs:List (List Int)) (a:List Int):Prop where
 ps:Ao m ch=qs++[a]
 lt:qs.length<m.tasks.length
 cur:AB m ch=qs.length
 pp:zr m ch=if a=[] then qs else qs++[a]
theorem ne_of_fin (h:FinP m t p):p≠[]:=by
 obtain ⟨x,d,-⟩:=h;intro e;subst e;cases d
theorem endB_fin {pp:List (List Int)} (hp:pp[t]?=some p) (h:FinP m t p):endB m pp t=true:=by
 obtain ⟨x,D,d⟩:=h;unfold endB;rw [DD,hp,Ei,D];exact DH d
theorem filter_ne {l:List (List Int)} (h:∀q∈l,q≠[]):l.filter (fun p=>decide (p.length≠0))=l:=
 List.filter_eq_self.2 fun q d=>DH (fun e=>h q d (List.length_eq_zero_iff.1 e))
theorem cur_of (hc:BS m=0) (h:zG m ch):(Bk m ch=true/\AB m ch=m.tasks.length)\/(Bk m ch=false/\∃qs a,Cur m ch qs a):=by
 have g:=zX.of hc;have hO:=h.psOk;have hR:=h.psR;have a1:zr m ch=(Ao m ch).filter (fun p=>decide (p.length≠0)):=by unfold zr;rw [if_pos (okC_of hc h)]
 cases E:Bk m ch with
 | true=>
  left
  obtain ⟨h1,h2⟩:=h.all E
  have U:zr m ch=Ao m ch:=by
   rw [a1];refine filter_ne fun q hq=>?_
   obtain ⟨i,hi,rfl⟩:=Ej hq;exact ne_of_fin (h2 i _ (DC hi)).2
  refine ⟨rfl,?_⟩;unfold AB;rw [U];refine curF_eq _ _ (DS _) (by omega) (fun j _ d=>?_) (fun hx=>by omega);have M:j<(Ao m ch).length:=by omega
  exact ⟨M,endB_fin (DC M) (h2 j _ (DC M)).2⟩
 | false=>
  right
  refine ⟨rfl,?_⟩;have ht:=BQ (ps:=Ao m ch) E;have J:=hO.pn ht;rcases List.eq_nil_or_concat (Ao m ch) with he | ⟨qs,a,he⟩
  ·rw [he] at J;cases J
  ·rw [List.concat_eq_append] at he;have I:(Ao m ch).length=qs.length+1:=by rw [he];simp
   have G:∀j (d:j<qs.length),FinP m j qs[j]:=fun j d=>hR.fin j _ (by rw [he,DJ d,DC d]) (by omega)
   have a6:∀q∈qs,q≠[]:=fun q hq=>by
    obtain ⟨i,hi,rfl⟩:=Ej hq;exact ne_of_fin (G i hi)
   have D:zr m ch=if a=[] then qs else qs++[a]:=by
    rw [a1,he,List.filter_append,filter_ne a6];by_cases O:a=[]
    ·subst O;simp
    ·rw [if_neg O,filter_ne (l:=[a]) (by simpa using O)]
   have b4:=hO.pl;refine ⟨qs,a,he,by omega,?_,D⟩
   have d:∀j (d:j<qs.length),(zr m ch)[j]?=some qs[j]:=fun j d=>by
    rw [D]
    split
    ·exact DC d
    ·rw [DJ d,DC d]
   unfold AB;refine curF_eq _ _ (DS _) ?_ (fun j _ a0=>?_) ?_
   ·rw [D];split <;> simp
   ·have h3:=d j a0;obtain ⟨h4,-⟩:=Ew.1 h3;exact ⟨h4,endB_fin h3 (G j a0)⟩
   ·rintro ⟨h4,h5⟩;have O:a≠[]:=fun e=>by rw [D,if_pos e] at h4;omega
    have h6:(zr m ch).getD qs.length []=a:=by
     rw [D,if_neg O,DD,DK (DE _)];simp
    unfold endB at h5;rw [h6] at h5
    have V:finB m (Ao m ch)=true:=by
     unfold finB;rw [I,Nat.add_sub_cancel]
     have:(Ao m ch).getD qs.length []=a:=by
      rw [he,DD,DK (DE _)];simp
     rw [this];exact h5
    unfold Bk cmpB at E;rw [V,Bool.and_true,Bool.or_eq_false_iff,Eb,Eb] at E;have h7:qs.length+1<m.tasks.length:=by omega
    exact absurd V (by rw [fin_last h (by rw [I];exact h7)];simp)
theorem headP_range {qs:List (List Int)} {a:List Int} (E:BS m=0) (D:zG m ch) (h:Cur m ch qs a) (ht:t<m.tasks.length):∀x∈headP m ch t,0<=x/\x<m.n:=by
 have g:=zX.of E;intro x d;unfold headP at d
 split at d
 ·rw [Option.mem_toList] at d;have h1:x∈(zr m ch).flatten:=mem_flat_iff.2 ⟨t,List.mem_of_getLast? d⟩;refine (D.range g).1 x ?_;rw [<-D.psOk.fl,h.ps];rw [h.pp] at h1
  split at h1
  ·rw [List.flatten_append];exact List.mem_append_left _ h1
  ·exact h1
 ·rw [Ez,DD,DC ht] at d;exact g.tn _ (DF ht) x (.inl d.1)
theorem sideP_eq (d:BS m=0) (ht:t<m.tasks.length):Ce m ch t=Bv m t (headP m ch t) ch:=by
 unfold Ce reachO;rw [if_pos ⟨d,by omega,by omega⟩,Int.toNat_natCast]
inductive All2 (P:Int->PT->Prop):List Int->List PT->Prop
 | nil:All2 P [] []
 | cons {n:Int} {p:PT} {l:List Int} {ps:List PT}:P n p->All2 P l ps->All2 P (n :: l) (p :: ps)
theorem kidsR_ok {f:Int->Nat->Int×PT×Nat} {P:Int->PT->Prop}:∀(l:List Int) (k:Nat) (acc:List PT),(∀n∈l,∀k,k<=3000->(f n k).1=0->P n (f n k).2.1/\(f n k).2.2=k+(f n k).2.1.size/\(f n k).2.2<=3000)->k<=3000->(zR f l k acc).1=0->
  ∃ps,(zR f l k acc).2.1=acc++ps/\All2 P l ps/\(zR f l k acc).2.2=k+PT.sizeL ps/\(zR f l k acc).2.2<=3000
 | [],k,acc,_,d,_=>⟨[],by simp [zR],.nil,by simp [zR,PT.sizeL],d⟩
 | n :: l,k,acc,hf,d,h=>by
  unfold zR at h⊢;by_cases h0:(f n k).1=0
  ·rw [if_pos h0] at h⊢;obtain ⟨h1,D,E⟩:=hf n (Eo ..) k d h0;obtain ⟨ps,q1,q2,q3,q4⟩:=kidsR_ok l _ (acc++[(f n k).2.1]) (fun n' G=>hf n' (DY _ G)) E h;exact ⟨(f n k).2.1 :: ps,by rw [q1];simp,.cons h1 q2,by rw [q3,D];simp only [PT.sizeL];omega,q4⟩
  ·rw [if_neg h0] at h;exact absurd h h0
theorem holdsL_of {l:List Int} {ps:List PT} (h:All2 (fun n p=>holdsT m p (ch++[n])=true) l ps):holdsL m ps ch l=true:=by
 induction h with
 | nil=>simp [holdsL]
 | cons h1 _ ih=>unfold holdsL;rw [h1,ih];rfl
theorem incB_of {N:Int}:∀{l:List Int} {b:Int},l.Pairwise (·<·)->(∀x∈l,b<x)->(∀x∈l,x<N)->incB N b l=true
 | [],_,_,_,_=>rfl
 | x :: l,b,hp,h1,d=>by
  rw [List.pairwise_cons] at hp;unfold incB;rw [DH (h1 x (Eo ..)),DH (d x (Eo ..)),incB_of hp.2 hp.1 (fun y D=>d y (DY _ D))];rfl
theorem cutT_some (h:cutT m ch=some t):AB m ch<=t/\t<m.tasks.length/\offB m ch t=true:=by
 unfold cutT at h;have h1:=List.find?_some h;have d:=List.mem_of_find?_eq_some h;obtain ⟨k,D,rfl⟩:=EA.1 d;rw [EB] at D;exact ⟨by omega,by omega,h1⟩
theorem cut_holds (E:BS m=0) (U:zG m ch) (h:cutT m ch=some t):cutB m ch t (Ce m ch t) 0=true/\((t:Int)≠AB m ch\/Ce m ch t≠[]):=by
 obtain ⟨h1,O,I⟩:=cutT_some h;have g:=zX.of E;have d:=g.dim;rcases cur_of E U with ⟨-,h4⟩ | ⟨-,qs,a,hC⟩
 ·omega
 ·have hs:=sideP_eq (ch:=ch) E O;have V:=headP_range E U hC O;unfold offB at I;rw [DQ,EC,DO,DO,Bool.not_eq_true'] at I;obtain ⟨h5,h6⟩:=I;refine ⟨?_,h6.symm.imp (fun h=>by omega) id⟩;unfold cutB;rw [if_neg]
  ·rw [Int.toNat_natCast,h5,Bool.not_false,Bool.true_and,DQ,DQ];rw [hs];refine ⟨incB_of (reachL_pw ..) (fun x D=>?_) (fun x D=>?_),?_,?_⟩
   ·have:=((Bu d).1 D).range d;omega
   ·exact (((Bu d).1 D).range d).2
   ·rw [EE];intro x D;exact DH ((Bu d).2 (RP.base D (V x D).1 (V x D).2))
   ·unfold wallB;rw [EE];intro x D;rw [EE];intro y G;have M:=(Bu d).1 D;unfold nextO at G
    split at G
    ·by_cases hf:zm m t y=true
     ·by_cases hu:y∈ch
      ·rw [DH hu];simp
      ·rw [DH ((Bu d).2 (M.step G hf hu))];simp
     ·have J:zm m t y=false:=by simpa using hf
      rw [J];simp
    ·cases G
  ·rintro (h7 | h7 | ⟨h7,h8⟩ | h7)
   ·omega
   ·omega
   ·rcases h6 with h6 | h6
    ·exact h6 h8
    ·omega
   ·exact h7 rfl
theorem Co {m:MZ} (D:BS m=0):∀(f:Nat) (ch:List Int) (k:Nat),zG m ch->k<=3000->(zu m f ch k).1=0->holdsT m (zu m f ch k).2.1 ch=true/\(zu m f ch k).2.2=k+(zu m f ch k).2.1.size/\(zu m f ch k).2.2<=3000
 | 0,ch,k,_,_,h=>by simp [zu] at h
 | f+1,ch,k,E,O,h=>by
  unfold zu at h⊢
  split at h
  ·simp at h
  ·rename_i h1
   rw [if_neg h1]
   split at h
   ·simp at h
   ·rename_i J
    rw [if_neg J]
    split at h
    ·rename_i t ht
     obtain ⟨d,M⟩:=cut_holds D E ht;refine ⟨?_,by simp [PT.size,PT.sizeL],by show k+1<=3000;omega⟩;unfold holdsT;rw [if_neg h1,if_pos M];exact d
    ·rename_i I
     have e:AE m ch=Bn m ch:=by unfold AE;rw [if_pos (okC_of D E)]
     simp only at h⊢
     split at h
     ·rename_i d
      rw [if_pos d];obtain ⟨ps,q1,q2,q3,q4⟩:=kidsR_ok (P:=fun n p=>holdsT m p (ch++[n])=true) (AE m ch) (k+1) [] (fun n I k' G h0=>Co D f (ch++[n]) k' (.snoc E (by rw [<-e];exact I)) G h0) (by omega) d;rw [q1,List.nil_append];refine ⟨?_,by rw [q3];simp only [PT.size];omega,q4⟩;unfold holdsT;rw [if_neg h1,if_neg (by simp)];exact holdsL_of q2
     ·rename_i d;exact absurd h d
end
section
open Go.RowKit
attribute [local go_sem ↓] Go.wp_at_zero Go.wp_at_succ
theorem box6 (w:World) (a0 a1 a2 a3 a4 a5:Value):zc w (w.alloc (.cells #[a0,a1,a2,a3,a4,a5] 29))/\
  (∀W,zc (w.alloc (.cells #[a0,a1,a2,a3,a4,a5] 29)) W->W.cell? ⟨w.heap.size,0,none⟩=some a0)/\(∀W,zc (w.alloc (.cells #[a0,a1,a2,a3,a4,a5] 29)) W->W.cell? ⟨w.heap.size,1,none⟩=some a1)/\
  (∀W,zc (w.alloc (.cells #[a0,a1,a2,a3,a4,a5] 29)) W->W.cell? ⟨w.heap.size,2,none⟩=some a2)/\(∀W,zc (w.alloc (.cells #[a0,a1,a2,a3,a4,a5] 29)) W->W.cell? ⟨w.heap.size,3,none⟩=some a3)/\
  (∀W,zc (w.alloc (.cells #[a0,a1,a2,a3,a4,a5] 29)) W->W.cell? ⟨w.heap.size,4,none⟩=some a4)/\(∀W,zc (w.alloc (.cells #[a0,a1,a2,a3,a4,a5] 29)) W->W.cell? ⟨w.heap.size,5,none⟩=some a5):=by
 have d:=zg.new w #[a0,a1,a2,a3,a4,a5] 29 rfl;exact ⟨(zc.refl w).alloc _,zc.rule (d.cell (k:=0) rfl),zc.rule (d.cell (k:=1) rfl),zc.rule (d.cell (k:=2) rfl),zc.rule (d.cell (k:=3) rfl),zc.rule (d.cell (k:=4) rfl),zc.rule (d.cell (k:=5) rfl)⟩
theorem Ad.parts (h:Ad w ok v m):∃Af cf Au cu At ct,v=.agg #[.int .i64 m.w,.int .i64 m.h,.int .i64 m.l,.slice Af m.free.length cf,.slice Au m.up.length cu,.slice At m.tasks.length ct]/\
  AX w ok (.slice Af m.free.length cf) m.free/\AR w ok (.slice Au m.up.length cu) m.up/\Bo w ok (.slice At m.tasks.length ct) m.tasks:=by
 obtain ⟨vfr,vup,vts,rfl,hf,G,ht⟩:=h;have d:=hf;have E:=G;have D:=ht;obtain ⟨_,⟨Af,cf,rfl,-⟩,-⟩:=d;obtain ⟨Au,cu,rfl,-⟩:=E;obtain ⟨_,⟨At,ct,rfl,-⟩,-⟩:=D;exact ⟨Af,cf,Au,cu,At,ct,rfl,hf,G,ht⟩
theorem freeCells {Af:Option Addr} {cf:Nat} (h:AX W ok (.slice Af m.free.length cf) m.free) (hfn:∀f∈m.free,(f.length:Int)=m.n) (ht:t<m.free.length) {n:Int} (h0:0<=n) (h1:n<m.n):
  ∃b off b' off' l c',Af=some ⟨b,off,none⟩/\W.cell? ⟨b,off+t,none⟩=some (.slice (some ⟨b',off',none⟩) l c')/\n<(l:Int)/\l<=c'/\m.free.length<=cf/\W.cell? ⟨b',off'+n.toNat,none⟩=some (.bool (zm m t n)):=by
 obtain ⟨vsf,⟨A,c,e,J,a0⟩,M⟩:=h;injection e with e1 e2 e3;subst e1 e3;obtain ⟨bf,off3,uf,rfl,_,E,G⟩:=Bt a0 M ht ht;have O:=hfn _ (DF ht);obtain ⟨A4,c4,rfl,I,V⟩:=G;have D:n.toNat<(m.free[t]).length:=by omega
 obtain ⟨b4,off4,rfl,_,d⟩:=CE V D D;have U:(m.free[t])[n.toNat]=zm m t n:=by simp [zm,ht,D]
 rw [U] at d;exact ⟨bf,off3,b4,off4,_,c4,rfl,E,by omega,I,J,d⟩
theorem zB.ext (h:zB w w'):zc w w':=h.below _
end
section
open Go.RowKit
structure ElemI (t e:TypeId) (z:Value) (sz bytes:Nat):Prop where
 ht:Tryz.prog.underlying t=some (.slice e)
 hi:(Tryz.prog.info? e).map (fun i=>(i.zero,i.size,i.bytes))=some (some z,sz,bytes)
 hz:z.cells.size=sz
 h0:0<sz
theorem run_append_rowS (w:World) (base:Nat) (t ty e:TypeId) (z:Value) (sz bytes:Nat) (I:ElemI t e z sz bytes)
  (v:Value) (n:Nat) (xs:List Value) (G:w.ownsRow base e sz v n xs) (u:Value) (m:Nat) (news:List Value) (hu:Bc w ok sz u m news) (h1:∀u∈news,u.oneCell'=true)
  (O:n+m<=maxLen) (D:(n+m)*bytes<=140737488355328) (J:base<=w.heap.size):
  ∃v' w',(Builtin.append_ #[t,t] ty #[v,u]).run Tryz.prog w=.ok v' w'/\w'.ownsRow base e sz v' (n+m) (xs++news)/\w.grownBy w' v.ownBlock/\(v'.ownBlock=v.ownBlock\/v'.ownBlock=some w.heap.size):=by
 obtain ⟨i,hi,hz,d,U⟩:=info_parts I.hi;have ht:=I.ht;have V:=I.hz;have M:=I.h0;obtain ⟨A,c,rfl,hc,hl,E⟩:=hu;rcases A with _ | a
 ·have hm:m=0:=by
   rcases En m with h | h
   ·exact h
   ·obtain ⟨b,off,e,_⟩:=E h;cases e
  subst hm;have hn:news=[]:=DV (by simpa using hl);subst hn;refine ⟨v,w,?_,by simpa using G,⟨rfl,rfl,rfl,DE _,fun _ _ _=>rfl⟩,.inl rfl⟩;rcases G.2 with ⟨rfl,rfl⟩ | ⟨g,cap,cur,rfl,b0,hg,b4,b1,b2,a7⟩
  ·simp [Builtin.append_,run_underlying ht,sizeOf,typeInfo,hi,d,Builtin.lenOf,Builtin.firstCells,loadCells,loadCellsFrom]
  ·have h:=run_append_room_src (P:=Tryz.prog) w t t ty e i ht hi g 0 n cap (.slice none 0 c) 0 [] (by rw [d];exact Src.ofNil w ht c) (by omega) (by simp) (by simp);rw [setCells_nil] at h;simpa using h
 ·rcases En m with h0 | hmp
  ·subst h0;have hn:news=[]:=DV (by simpa using hl);subst hn;obtain ⟨v',w',h1,h2,h3,h4,h5⟩:=run_append_own_at (P:=Tryz.prog) w base t ty e i z sz bytes ht hi hz d U V M v n xs G a 0 c [] (by simp) (by simp) (by simp) O D J;exact ⟨v',w',h1,h2,h3,h5⟩
  ·obtain ⟨b,off,he,_,a4⟩:=E hmp;injection he with he;subst he;obtain ⟨v',w',h1,h2,h3,h4,h5⟩:=run_append_own_at (P:=Tryz.prog) w base t ty e i z sz bytes ht hi hz d U V M v n xs G ⟨b,off,none⟩ m c news hl (fun j u hj=>by rw [Addr.add_lit];exact a4 j u hj) h1 O D J;exact ⟨v',w',h1,h2,h3,h5⟩
theorem wp_append_row (W:World) (s x:Operand) {t e:TypeId} (I:ElemI t e z sz bytes)
  (U:o.op=.call { callee:=.builtin .append,args:=#[s,x],argTypes:=#[t,t] }) (base n m:Nat) (l l2:List Value) (v u:Value) (hs:a.eval s=v) (hx:a.eval x=u)
  (D:W.ownsRow base e sz v n l) (hu:Bc W ok sz u m l2) (h1:∀u∈l2,u.oneCell'=true) (d:base<=W.heap.size) (E:n+m<=maxLen) (O:(n+m)*bytes<=140737488355328)
  (h:∀v' w',w'.ownsRow base e sz v' (n+m) (l++l2)->W.grownBy w' v.ownBlock->(v'.ownBlock=v.ownBlock\/v'.ownBlock=some W.heap.size)->K (a.put o.dst v') w'):Oper.wp Tryz.prog o a W K Q:=by
 obtain ⟨v',w',V,G,J,M⟩:=run_append_rowS (ok:=ok) W base t o.type e z sz bytes I v n l D u m l2 hu h1 E O d;unfold Oper.wp execOp;simp only [U,resolve,invoke,builtin,Sem.run_bind,Sem.run_pure,Result.andThen_ok,List.map_toArray,List.map_cons,List.map_nil,hs,hx,V];exact h v' w' G J M
theorem Br {ops:Array Oper} {E:Prop} (J:o.guard=none) (W:World) (s x:Operand) {t e:TypeId} (I:ElemI t e z sz bytes)
  (O:o.op=.call { callee:=.builtin .append,args:=#[s,x],argTypes:=#[t,t] }) (base n m:Nat) (l l2:List Value) (v u:Value) (U:a.eval s=v) (hx:a.eval x=u)
  (D:W.ownsRow base e sz v n l) (V:Bc W ok sz u m l2) (h1:∀u∈l2,u.oneCell'=true) (d:base<=W.heap.size) (G:n+m<=maxLen) (M:(n+m)*bytes<=140737488355328)
  (h:∀v' w',w'.ownsRow base e sz v' (n+m) (l++l2)->W.grownBy w' v.ownBlock->(v'.ownBlock=v.ownBlock\/v'.ownBlock=some W.heap.size)->K (a.put o.dst v') w'):
  if Region.wanted o (yielded ops a.tmps)=true then Oper.wp Tryz.prog o a W K Q else E:=by
 have hw:Region.wanted o (yielded ops a.tmps)=true:=by simp [Region.wanted,J]
 rw [if_pos hw];exact wp_append_row W s x I O base n m l l2 v u U hx D V h1 d G M h
end
section
open Go.RowKit Go.Shelf Go.Sort
attribute [local go_sem ↓] Go.wp_at_zero Go.wp_at_succ
def dfLA_ren:Go.Shelf.Ren:=⟨fun | 10=>137 | 6=>151 | n=>n,fun | 22=>22 | 23=>39 | 25=>188 | 3=>3 | 4=>4 | 0=>0 | n=>n,fun | n=>n⟩
theorem dfLA:Go.Proofs.SlLaysH.n10 Tryz.prog dfLA_ren:={
 mixed:=by kernel_rfl
 f6:=⟨Tryz.f151.name,by decide,Tryz.func151.trans (congrArg some (by kernel_rfl))⟩
 f10:=⟨Tryz.f137.name,by decide,Tryz.func137.trans (congrArg some (by kernel_rfl))⟩
 t0:=Tryz.underlying0
 a0:=Tryz.isAgg0
 z0:=Tryz.sizeOf0
 v0:=Tryz.zeroValue0
 t3:=Tryz.underlying3
 a3:=Tryz.isAgg3
 z3:=Tryz.sizeOf3
 v3:=Tryz.zeroValue3
 t4:=Tryz.underlying4
 a4:=Tryz.isAgg4
 z4:=Tryz.sizeOf4
 v4:=Tryz.zeroValue4
 t22:=Tryz.underlying22
 a22:=Tryz.isAgg22
 z22:=Tryz.sizeOf22
 v22:=Tryz.zeroValue22
 a23:=Tryz.isAgg39
 z23:=Tryz.sizeOf39
 t25:=Tryz.underlying188
 a25:=Tryz.isAgg188
 z25:=Tryz.sizeOf188
 v25:=Tryz.zeroValue188 }
abbrev SlV:={ v:Value // ∃A n c,v=.slice A n c }
def slLen (v:Value):Nat:=match v with | .slice _ n _=>n | _=>0
theorem holds_sl {l:List SlV} [Inhabited SlV] (h:OwnL w B (.slice (some ⟨g,0,none⟩) (l.map (·.1)).length cap) (l.map (·.1))):Holds (fun x:SlV=>x.1) w g 0 l.toArray:=by
 intro j D;have d:j<l.length:=by simpa using D
 refine ⟨?_,by have:=World.ownsRow.frozenAt h j;simpa using this⟩;have:=World.ownsRow.cellAt h j (by simpa using d);rw [Nat.zero_add,this];simp [getElem!_pos,d]
theorem cf75 (a:Array Value) (w:World):(callFunc 138 a).run Tryz.prog w=.ok (.enter 138 a) w:=AP Tryz.func138 (by kernel_rfl) (by kernel_rfl) a w
theorem paths1_sl (x:SlV) (w:World):Calls Tryz.prog 138 (#[x.1]++#[]) w fun e w'=>e=.returned (.bool (decide (slLen x.1=0)))/\w=w':=by
 obtain ⟨_,A,n,c,rfl⟩:=x;show Calls Tryz.prog 138 #[.slice A n c] w _;by_cases d:n=0
 ·subst d
  go_enter Tryz.func138,Tryz.ntmps138
  go_wp2;go_ret;exact ⟨rfl,rfl⟩
 ·have D:((n:Int)==0)=false:=by rw [DR];omega
  have H:Hid (decide (slLen (.slice A n c)=0)=false):=DI d;clear d
  go_enter Tryz.func138,Tryz.ntmps138
  go_wp2;go_ret;exact ⟨zp H.out.symm,rfl⟩
theorem deleteFuncL_calls {l:List SlV} (E:OwnL w B (.slice (some ⟨g,0,none⟩) (l.map (·.1)).length cap) (l.map (·.1))) (U:l.length<=1000000):
  Calls Tryz.prog 137 #[.slice (some ⟨g,0,none⟩) (l.map (·.1)).length cap,.func (.func 138) #[] #[]] w fun e w'=>∃v',e=.returned v'/\OwnL w' B v' ((l.filter fun x=>!decide (slLen x.1=0)).map (·.1))/\Below B w w':=by
 letI:Inhabited SlV:=⟨⟨.slice none 0 0,_,_,_,rfl⟩⟩
 have D:=Bq E;have J:B<=g:=(World.ownsRow.lt E g rfl).1;have d:(l.map (·.1)).length=l.toArray.size:=by simp
 have G:=AnyE.slices_DeleteFunc dfLA (fun x:SlV=>x.1) (fun x=>by obtain ⟨_,A,n,c,rfl⟩:=x;rfl) (fun x=>decide (slLen x.1=0)) 138 #[] cf75 ⟨.slice none 0 0,_,_,_,rfl⟩ Tryz.zeroValue39 g 0 cap l.toArray w
  (fun W x O=>by
   refine Calls.mono (paths1_sl x W) ?_;rintro e w' ⟨rfl,rfl⟩;exact ⟨rfl,0,rfl⟩)
  (fun n os dk x _=>by
   refine Calls.mono (paths1_sl x _) ?_;rintro e w' ⟨rfl,rfl⟩;exact ⟨rfl,0,rfl⟩)
  (holds_sl E) (by rw [<-d];simp;omega) (by rw [<-d];exact D)
 change Calls Tryz.prog 137 _ _ _ at G;rw [<-d] at G;refine Calls.mono G ?_;rintro e w' ⟨rfl,q,rfl⟩;have I:(l.filter fun x=>!decide (slLen x.1=0)).length<=l.length:=Eg _ _;have M:w.ownsRow B 39 1 (.slice (some ⟨g,0,none⟩) (l.map (·.1)).length cap) (l.map (·.1)).length (l.map fun x:SlV=>x.1):=E;refine ⟨_,rfl,?_,Lib.below_putRow (Below.refl _ _) J⟩;have:=Lib.ownsRow_putRow (enc:=fun x:SlV=>x.1) (q:=q) (k:=(l.filter fun x=>!decide (slLen x.1=0)).length) (ys:=(l.filter fun x=>!decide (slLen x.1=0))++List.replicate (l.length - (l.filter fun x=>!decide (slLen x.1=0)).length) ⟨.slice none 0 0,_,_,_,rfl⟩) M (by simp;omega) (by simpa using I);rw [List.take_left' rfl] at this;unfold OwnL;rw [Em];simpa using this
theorem deleteFuncL_nil (A:Option Addr) (c:Nat) (w:World):
  Calls Tryz.prog 137 #[.slice A 0 c,.func (.func 138) #[] #[]] w fun e w'=>e=.returned (.slice A 0 c)/\zc w w':=by
 have hI:Hid (∀w,Calls Tryz.prog 151 #[.slice A 0 c,.func (.func 138) #[] #[]] w fun e w'=>e=.returned (.int .i64 (-1))/\zc w w'):=fun w=>by
  go_enter Tryz.func151,Tryz.ntmps151
  go_wp2_with fail
  go_loopg [8] 0 (fun gk v wr=>v=.int .i64 0/\gk=0/\Hid (zc w wr))
  case atStart=>exact ⟨rfl,rfl,zc.refl _⟩
  case round=>
   obtain ⟨rfl,rfl,D⟩:=hrel
   go_wp2_with fail
   go_ret;exact ⟨rfl,D.out⟩
 go_enter Tryz.func137,Tryz.ntmps137
 go_wp2_with fail
 refine (hI.out w).mono ?_;rintro e w2 ⟨rfl,d⟩
 go_wp2_with fail
 go_ret;exact ⟨rfl,d⟩
def PathsPostY (Y:Nat->Prop) (w:World) (m:MZ) (ch:List Int) (e:Ending) (w':World):Prop:=
 ∃v,e=.returned (.tuple #[v,.bool (okC m ch)])/\zc w w'/\zV w' (fun b=>Y b\/w.heap.size<=b) v (zr m ch)
theorem filter_pair {w:World} {ok:Nat->Prop}:∀(l:List SlV) (ps:List (List Int)),l.length=ps.length->(∀(i:Nat) x,ps[i]?=some x->∃u,(l.map (·.1))[i]?=some u/\zl w ok u x)->
  ((l.filter fun x=>!decide (slLen x.1=0)).length=(ps.filter fun p=>decide (p.length≠0)).length)/\∀(i:Nat) x,(ps.filter fun p=>decide (p.length≠0))[i]?=some x->∃u,((l.filter fun x=>!decide (slLen x.1=0)).map (·.1))[i]?=some u/\zl w ok u x
 | [],[],_,_=>⟨rfl,fun i x d=>by simp at d⟩
 | a :: l,p :: ps,J,h=>by
  obtain ⟨h1,G⟩:=filter_pair l ps (by simpa using J) (fun i x d=>by simpa using h (i+1) x (by simpa using d));obtain ⟨u,M,I⟩:=h 0 p rfl;have E:a.1=u:=by simpa using M
  have D:slLen a.1=p.length:=by
   obtain ⟨A,c,e,_⟩:=id I;rw [E,e];rfl
  by_cases hp:p.length=0
  ·rw [List.filter_cons_of_neg (by simp [D,hp]),List.filter_cons_of_neg (by simp [hp])];exact ⟨h1,G⟩
  ·rw [List.filter_cons_of_pos (by simp [D,hp]),List.filter_cons_of_pos (by simp [hp])];refine ⟨by simp [h1],fun i x d=>?_⟩
   match i,d with
   | 0,d=>
    have:p=x:=by simpa using d
    subst this;exact ⟨u,by simp [E],I⟩
   | i+1,d=>simpa using G i x (by simpa using d)
theorem rPathsY_calls {okc Y:Nat->Prop} (w:World) (hm:Ad w Y v m) (hl:Lens m) (b2:zl w okc vc ch) (e0:ch.length<=20000000000000):
  Calls Tryz.prog 111 #[v,vc] w (PathsPostY Y w m ch):=by
 have c8:=zh hm;obtain ⟨vfr,vup,vts,rfl,-,-,-⟩:=hm;have b8:=zh b2;obtain ⟨A,c,rfl,f3,-⟩:=b2;have HL:=zh hl;clear hl
 go_enter Tryz.func111,Tryz.ntmps111
 go_wp2_with fail
 generalize b5:w.alloc (.cells #[.int .i64 m.w,.int .i64 m.h,.int .i64 m.l,vfr,vup,vts] 29)=wa;have J:zc w wa:=by rw [<-b5];exact (zc.refl w).alloc _
 have c0:Hid (w.heap.size<=wa.heap.size):=J.size;clear b5;refine (stateOf_calls wa (c8.out.below J) HL.out (b8.out.below J) e0).mono ?_;rintro e w1 ⟨v1,rfl,b6,h1⟩;have H1:=zh h1;have I:zc w w1:=J.trans b6;have a6:Hid (w.heap.size<=w1.heap.size):=I.size;clear h1 b6;obtain ⟨bb,a1⟩:=EH (okC m ch);rw [<-a1] at H1⊢;have d:=zh a1;clear a1;cases bb
 ·have D:Hid (PathsPostY Y w m ch (.returned (.tuple #[.slice none 0 0,.bool false])) w1):=⟨_,by rw [<-d.out],I,by unfold zr;rw [<-d.out];exact ⟨[],⟨none,0,rfl,DE _,AD.nil _ _ _ _⟩,fun i x hx=>by simp at hx⟩⟩
  go_wp2_with fail
  go_ret2
  exact D.out
 ·have G:∃p,v1=.pointer (some ⟨p,0,none⟩)/\Dz w1 (fun b=>Y b\/wa.heap.size<=b) p m ch:=by
   rcases H1.out with ⟨h,_⟩ | ⟨_,h⟩
   ·cases h
   ·exact h
  obtain ⟨p,rfl,us,f,u,t,vc',vp,gu,e1,G⟩:=G;obtain ⟨r0,r1,r2,r3,r4,r5,r6,r7,r8⟩:=G.rules;obtain ⟨hg,hc⟩:=okC_true d.out.symm;obtain ⟨vs,⟨Ap,cp,rfl,d6,a3⟩,a2⟩:=G.ps;have a4:vs.length=(Ao m ch).length:=by have:=a3.1;omega
  have e7:(Ao m ch).length<=6:=DG hc.psOk.pl hg.tk
  have a7:Hid (Bc w1 (fun b=>Y b\/wa.heap.size<=b) 1 (.slice Ap (Ao m ch).length cp) vs.length vs):=by
   show Bc _ _ _ _ _ _;rw [a4];exact ⟨Ap,cp,rfl,d6,a3⟩
  have c6:=zh a2
  have b0:∀u∈vs,∃A n c,u=.slice A n c:=fun u hu=>by
   obtain ⟨i,hi,rfl⟩:=Ej hu;obtain ⟨u',h1,A',c',e,_⟩:=a2 i _ (DC (by omega));rw [DC hi] at h1;injection h1 with h1;exact ⟨_,_,_,h1.trans e⟩
  have a8:=zh b0;have a9:=zh a4;have c9:Hid (zr m ch=(Ao m ch).filter fun p=>decide (p.length≠0)):=by show _=_;unfold zr;rw [if_pos d.out.symm]
  clear G e1 hg hc H1 a2 a3 b0 a4;have e8:=zc.refl w1
  go_wp2_with fail
  refine (cloneL_calls w1 a7.out (fun u hu=>by obtain ⟨A,n,c,rfl⟩:=a8.out u hu;rfl) (by have:=a9.out;omega)).mono ?_;rintro e w2 ⟨v2,rfl,U,E⟩;obtain ⟨l,hl⟩:∃l:List SlV,l.map (·.1)=vs:=⟨vs.attachWith _ a8.out,by simp⟩;have b3:l.length=(Ao m ch).length:=by have:=congrArg List.length hl;have:=a9.out;simp at *;omega
  have b1:=filter_pair (w:=w1) (ok:=fun b=>Y b\/wa.heap.size<=b) l (Ao m ch) b3 (by rw [hl];exact c6.out);have c7:=zh b1;have f1:zc w w2:=I.trans U
  have O:∃v3 w3,Calls Tryz.prog 137 #[v2,.func (.func 138) #[] #[]] w2 (fun e w'=>∃v',e=.returned v'/\OwnL w' w1.heap.size v' ((l.filter fun x=>!decide (slLen x.1=0)).map (·.1))/\zc w1 w')/\v3=v2/\w3=w2:=by
   refine ⟨v2,w2,?_,rfl,rfl⟩;rcases En vs.length with h0 | h0
   ·have e2:=DV h0;subst e2;have d9:l=[]:=DV (by have:=congrArg List.length hl;simpa using this);subst d9;obtain ⟨A',c',rfl,f2,-⟩:=Bc.of_own E;refine (deleteFuncL_nil A' c' w2).mono ?_;rintro e w3 ⟨rfl,hE⟩;exact ⟨_,rfl,OwnL.ext E hE,U.trans hE⟩
   ·have V:=E;unfold OwnL at V;obtain ⟨g,cap,rfl,hg,f4⟩:=World.ownsRow.form V h0;subst hl;refine (deleteFuncL_calls E (by omega)).mono ?_;rintro e w3 ⟨v3,rfl,M,d5⟩;exact ⟨_,rfl,M,Below.trans U d5⟩
  obtain ⟨_,_,O,_,_⟩:=O;have b9:=zh O;clear E O U hl b3 b1
  go_wp2_with fail
  refine b9.out.mono ?_;rintro e w3 ⟨v3,rfl,M,a5⟩
  have D:Hid (PathsPostY Y w m ch (.returned (.tuple #[v3,.bool true])) w3):=by
   refine ⟨v3,by rw [<-d.out],I.trans a5,?_⟩;rw [c9.out];obtain ⟨h1,h2⟩:=c7.out;have h3:Bc w3 (fun b=>Y b\/w.heap.size<=b) 1 v3 (((l.filter fun x=>!decide (slLen x.1=0)).map (·.1)).length) ((l.filter fun x=>!decide (slLen x.1=0)).map (·.1)):=(Bc.of_own M).weaken fun b hb=>.inr (DG a6.out hb)
   rw [Em,h1] at h3
   exact ⟨_,h3,fun i x hx=>by
    obtain ⟨u,hu,hi⟩:=h2 i x hx;exact ⟨u,hu,(hi.weaken fun b hb=>hb.imp id (fun h=>DG c0.out h)).below a5⟩⟩
  clear M a5
  go_wp2_with fail
  go_ret2
  exact D.out
end
section
open Go.RowKit
attribute [local go_sem ↓] Go.wp_at_zero Go.wp_at_succ
theorem CG (d:BS m=0) (h:zG m ch):(zr m ch).length<=m.tasks.length/\m.tasks.length<=6/\ch.length<=300/\∀x∈zr m ch,x≠[]/\x.length<=1000:=by
 have g:=zX.of d;have h1:=h.psOk;have E:=h.len300 g;unfold zr;rw [if_pos (okC_of d h)];refine ⟨DG (Eg _ _) h1.pl,g.tk,E,fun x D=>⟨?_,?_⟩⟩
 ·have:=(Ez.1 D).2;rintro rfl;simp at this
 ·have G:=flat_le (Ez.1 D).1;rw [h1.fl] at G;omega
structure PSt (w:World) (ok:Nat->Prop) (m:MZ) (f u ts vc vp:Value) (ch:List Int):Prop where
 maze:Ad w ok (.agg #[.int .i64 m.w,.int .i64 m.h,.int .i64 m.l,f,u,ts]) m
 chs:zl w ok vc ch
 ps:zV w ok vp (zr m ch)
def stv (m:MZ) (f u ts vc vp:Value) (t:Int):Value:=.agg #[.int .i64 m.w,.int .i64 m.h,.int .i64 m.l,f,u,ts,vc,vp,.int .i64 t]
theorem PSt.more {vp:Value} (h:PSt w ok m f u ts vc vp ch) (d:zc w w'):PSt w' ok m f u ts vc vp ch:=⟨h.maze.below d,h.chs.below d,h.ps.below d⟩
def setL (g:Nat):Nat->List Value->World->World
 | _,[],W=>W
 | k,v :: vs,W=>setL g (k+1) vs (W.setCell ⟨g,k,none⟩ v)
theorem CA (g:Nat):∀(vs:List Value) (k:Nat) (W:World),Below g W (setL g k vs W)
 | [],_,W=>Below.refl g W
 | v :: vs,k,W=>((Below.refl g W).setCell (p:=⟨g,k,none⟩) (DE _) v).trans (CA g vs (k+1) _)
theorem CB (g:Nat) (b:Nat) (d:b≠g):∀(vs:List Value) (k:Nat) (W:World),(setL g k vs W).heap[b]?=W.heap[b]?
 | [],_,W=>rfl
 | v :: vs,k,W=>(CB g b d vs (k+1) _).trans (DN W ⟨g,k,none⟩ v b d)
theorem setL_blk {g:Nat} {t:TypeId}:∀(vs:List Value) (us ws:List Value) (W:World),us.length=vs.length->zg W g t (ws++us).toArray->zg (setL g ws.length vs W) g t (ws++vs).toArray
 | [],us,ws,W,d,h=>by
  have:us=[]:=List.length_eq_zero_iff.1 d;subst this;exact h
 | v :: vs,us,ws,W,d,h=>by
  match us,d,h with
  | u :: us,d,h=>
   have h1:=h.set (k:=ws.length) v;rw [List.setIfInBounds_toArray,List.set_append_right _ _ (DE _),Nat.sub_self,List.set_cons_zero] at h1;have D:=setL_blk vs us (ws++[v]) _ (by simpa using d) (by rw [List.append_assoc];exact h1);rw [List.append_assoc,DM] at D;exact D
theorem case_fin9 {P:World->Prop} {g2:Nat} {t:TypeId} {a0 a1 a2 a3 a4 a5 a6 a7 a8 z0 z1 z2 z3 z4 z5 z6 z7 z8:Value} (h:∀WZ,zg WZ g2 t #[a0,a1,a2,a3,a4,a5,a6,a7,a8]->Below g2 W WZ->(∀k,k<W.heap.size->k≠g2->WZ.heap[k]?=W.heap[k]?)->P WZ) (D:zg W g2 t #[z0,z1,z2,z3,z4,z5,z6,z7,z8]):
  P (((((((((W.setCell ⟨g2,0,none⟩ a0).setCell ⟨g2,1,none⟩ a1).setCell ⟨g2,2,none⟩ a2).setCell ⟨g2,3,none⟩ a3).setCell ⟨g2,4,none⟩ a4).setCell ⟨g2,5,none⟩ a5).setCell ⟨g2,6,none⟩ a6).setCell ⟨g2,7,none⟩ a7).setCell ⟨g2,8,none⟩ a8):=
 h (setL g2 0 [a0,a1,a2,a3,a4,a5,a6,a7,a8] W) (setL_blk [a0,a1,a2,a3,a4,a5,a6,a7,a8] [z0,z1,z2,z3,z4,z5,z6,z7,z8] [] W rfl D) (CA g2 _ 0 W) (fun k _ d=>CB g2 k d _ 0 W)
theorem of_calls (w:World) (hm:Ad w ok (.agg #[.int .i64 m.w,.int .i64 m.h,.int .i64 m.l,f,u,ts]) m) (hl:Lens m) (hc:BS m=0) (f5:zl w ok vc ch) (hi:zG m ch):
  Calls Tryz.prog 66 #[.agg #[.int .i64 m.w,.int .i64 m.h,.int .i64 m.l,f,u,ts],vc] w fun e w'=>∃vp,e=.returned (stv m f u ts vc vp (AB m ch))/\zc w w'/\PSt w' (fun b=>ok b\/w.heap.size<=b) m f u ts vc vp ch:=by
 have b9:=zh hm;have HL:=zh hl;have f0:=zh (CG hc hi);have b5:=zh f5;obtain ⟨Af,cf,Au,cu,At,ct,e,-,-,g1⟩:=hm.parts;injection e with e;injection e with e;simp only [List.cons.injEq,and_true,true_and] at e;obtain ⟨rfl,rfl,rfl⟩:=e;have h6:=zh g1;obtain ⟨Ac,cc,rfl,-,-⟩:=f5;clear hm hl hc hi g1
 go_enter Tryz.func66,Tryz.ntmps66
 go_wp2_with fail
 obtain ⟨e0,r0,r1,r2,r3,r4,r5⟩:=box6 w (.int .i64 m.w) (.int .i64 m.h) (.int .i64 m.l) (.slice Af m.free.length cf) (.slice Au m.up.length cu) (.slice At m.tasks.length ct);have e7:(w.alloc (.cells #[.int .i64 m.w,.int .i64 m.h,.int .i64 m.l,.slice Af m.free.length cf,.slice Au m.up.length cu,.slice At m.tasks.length ct] 29)).heap.size=w.heap.size+1:=by simp
 generalize w.alloc _=w1 at e0 r0 r1 r2 r3 r4 r5 e7⊢;have D:=zg.new w1 #[.int .i64 0,.int .i64 0,.int .i64 0,.slice none 0 0,.slice none 0 0,.slice none 0 0,.slice none 0 0,.slice none 0 0,.int .i64 0] 128 (g:=w1.heap.size) rfl;have a9:zc w1 (w1.alloc (.cells #[.int .i64 0,.int .i64 0,.int .i64 0,.slice none 0 0,.slice none 0 0,.slice none 0 0,.slice none 0 0,.slice none 0 0,.int .i64 0] 128)):=(zc.refl w1).alloc _;generalize w1.alloc _=w2 at D a9⊢;rw [e7] at D;have a7:=zh (e0.trans a9);have U:=zh a9;have HZ:=zh D;obtain ⟨gm,e3⟩:=EH w.heap.size;rw [<-e3] at r0 r1 r2 r3 r4 r5 HZ⊢;have a0:Hid (gm=w.heap.size):=e3;have r0:=fun W h=>r0 W (U.out.trans h)
 have r1:=fun W h=>r1 W (U.out.trans h)
 have r2:=fun W h=>r2 W (U.out.trans h)
 have r3:=fun W h=>r3 W (U.out.trans h)
 have r4:=fun W h=>r4 W (U.out.trans h)
 have r5:=fun W h=>r5 W (U.out.trans h)
 clear e3 e7 D e0 a9;refine (rPathsY_calls (Y:=fun b=>ok b/\b<w.heap.size) w2 (b9.out.bound.below a7.out) HL.out (b5.out.below a7.out) (by have:=f0.out;omega)).mono ?_;rintro e w3 ⟨vp,rfl,d5,b2⟩;have b2:=b2.weaken (fun b I=>(by have:=a0.out;have:=HZ.out;have:=za this;have:=a7.out.size;exact ⟨I.imp (fun h=>h.1) (fun h=>by omega),by omega⟩:(ok b\/w.heap.size<=b)/\b≠gm+1));have f1:=zh b2;obtain ⟨vps,⟨Ap,cp,rfl,-,f9⟩,f6⟩:=b2;have f2:=zh f9;have h3:=zh f6;have M:=zh (a7.out.trans d5);clear f9 f6
 go_wp2_with fail
 have a8:=zg.new w3 #[.int .i64 m.w,.int .i64 m.h,.int .i64 m.l,.slice Af m.free.length cf,.slice Au m.up.length cu,.slice At m.tasks.length ct,.slice Ac ch.length cc,.slice Ap (zr m ch).length cp,.int .i64 0] 128 (g:=w3.heap.size) rfl;have e1:zc w3 (w3.alloc (.cells #[.int .i64 m.w,.int .i64 m.h,.int .i64 m.l,.slice Af m.free.length cf,.slice Au m.up.length cu,.slice At m.tasks.length ct,.slice Ac ch.length cc,.slice Ap (zr m ch).length cp,.int .i64 0] 128)):=(zc.refl w3).alloc _;generalize w3.alloc _=w4 at a8 e1⊢;obtain ⟨gs,e4⟩:=EH w3.heap.size;rw [<-e4] at a8⊢;have h4:Hid (gs=w3.heap.size):=e4;have g6:=zh e1;have e9:=zh a8;have b8:=zh d5;obtain ⟨PL,d8⟩:=EH ((zr m ch).length);rw [<-d8] at f2 e9⊢;have V:=zh d8;clear e4 a8 e1 d5 d8;go_loopw [18] (fun _ wr=>∃k:Nat,k<=PL/\Hid (curF m (zr m ch) (PL - k) k=AB m ch)/\Hid (zc w3 wr)/\Hid (zg wr gs 128 #[.int .i64 m.w,.int .i64 m.h,.int .i64 m.l,.slice Af m.free.length cf,.slice Au m.up.length cu,.slice At m.tasks.length ct,.slice Ac ch.length cc,.slice Ap PL cp,.int .i64 k])) (fun _ wr=>match wr.cell? ⟨gs,8,none⟩ with | some (.int _ i)=>PL - i.toNat | _=>0)
 case atStart=>exact ⟨0,DS _,by show _=_;rw [V.out];rfl,g6.out,e9.out⟩
 case round=>
  obtain ⟨k,hk,a3,hE,hB⟩:=hrel;have c0:=hB.out.cell (k:=0) rfl;have c1:=hB.out.cell (k:=1) rfl;have c2:=hB.out.cell (k:=2) rfl;have c3:=hB.out.cell (k:=3) rfl;have c4:=hB.out.cell (k:=4) rfl;have c5:=hB.out.cell (k:=5) rfl;have c6:=hB.out.cell (k:=6) rfl;have c7:=hB.out.cell (k:=7) rfl;have c8:=hB.out.cell (k:=8) rfl;by_cases a6:k<PL
  ·obtain ⟨j8,k4,-,f7⟩:=f0.out;have a5:k<m.tasks.length:=by have:=V.out;omega
   have b0:k<(zr m ch).length:=by have:=V.out;omega
   obtain ⟨bt,offt,sn,u1,u2,rfl,-,-,-,f4,-,e5⟩:=Cj h6.out a5;obtain ⟨bp,offp,up,rfl,-,e2,g3⟩:=Bt f2.out h3.out a6 b0;obtain ⟨b1,b3⟩:=f7 _ (DF b0);have i0:=(HL.out.tl _ (DF a5)).2
   have O:Hid (endB m (zr m ch) k=match ((zr m ch)[k]).getLast? with | none=>false | some x=>decide (x∈(m.tasks[k]).2)):=by
    show _=_;unfold endB;rw [DD,DC b0,DD,DC a5];rfl
   obtain ⟨P,hP⟩:=EH ((zr m ch)[k]);obtain ⟨T,hT⟩:=EH ((m.tasks[k]).2);rw [<-hP] at g3 b1 b3 O;rw [<-hT] at e5 i0 O;clear hP hT f7;obtain ⟨q,x,rfl⟩:∃q x,P=q++[x]:=⟨P.dropLast,P.getLast b1,(List.dropLast_concat_getLast b1).symm⟩
   have b7:Hid (endB m (zr m ch) k=decide (x∈T)):=by
    have:=O.out;rw [List.getLast?_append] at this;exact this
   clear O b1;obtain ⟨Aq,cq,rfl,h8,g0⟩:=g3;obtain ⟨bq,offq,e,-,a4⟩:=AI g0 (k:=q.length) (by simp) (by simp);have a4:w3.cell? ⟨bq,offq+q.length,none⟩=some (.int .i64 x):=by rw [a4];simp
   subst e;obtain ⟨N,hN⟩:=EH ((q++[x]).length);obtain ⟨n,hn⟩:=EH q.length;have f3:N=n+1:=by rw [hN,hn];simp
   rw [<-hN] at e2 b3;rw [<-hn] at a4;clear g0 h8 hN hn;have h5:=zh ((e5.below M.out).below hE.out);obtain ⟨Au2,cu2,rfl,-,-⟩:=e5;have q5:=zc.rule (r5 wr (b8.out.trans hE.out));have q8:=zc.rule c8;have g7:=zh c8;have qt:=zc.rule (hE.out.cell (M.out.cell f4));have qp:=zc.rule (hE.out.cell e2);have qx:=zc.rule (hE.out.cell a4);have hx:zc wr wr:=zc.refl wr;have j2:=zh r5;clear r0 r1 r2 r3 r4 r5 c0 c1 c2 c3 c4 c5 c6 c7 f4 e2 a4;have j5:(k:Int)<(PL:Int):=by omega
   have j4:(0:Int)<=(k:Int):=by omega
   have j6:(k:Int)<(m.tasks.length:Int):=by omega
   have j9:(0:Int)<=(n:Int):=by omega
   have k2:(n:Int)<(N:Int):=by omega
   have k3:IntKind.i64.wrap ((N:Int) - 1)=(n:Int):=by rw [DZ];omega
   have j7:IntKind.i64.wrap ((k:Int)+1)=(k:Int)+1:=by rw [DZ];omega
   have j1:=zh f3;have i9:=zh a5;clear f3 a5 b0
   go_wp2_with fail
   go_quiet ((go_at_call 56;refine (Ay x _ (h5.out.below ((zc.refl wr).drewN _)) (by omega)).mono ?_;rintro e w9 ⟨rfl,rfl⟩;exact ⟨rfl,⟨_,rfl⟩⟩))
   have E:Hid (zg (wr.drewN nq) gs _ _):=hB.out.ext ((zc.refl wr).drewN _);have J:Hid (zc w3 (wr.drewN nq)):=hE.out.drewN _;have g8:Hid (∀h:zc wr (wr.drewN nq),zc wr (wr.drewN nq)):=fun h=>h
   generalize wr.drewN nq=WX at E J g8⊢;obtain ⟨d,hd⟩:=EH (decide (x∈T));rw [<-hd] at b7⊢;clear hd;have c8:=E.out.cell (k:=8) rfl;have f8:=E.out.frozen 8
   cases d with
   | true=>
    clear q5 q8 qt qp qx hx
    go_wp2_with fail
    have c9:=E.out.set (k:=8) (.int .i64 ((k:Int)+1));have d6:zc w3 (WX.setCell ⟨gs,8,none⟩ (.int .i64 ((k:Int)+1))):=J.out.setCell (p:=⟨gs,8,none⟩) (by rw [h4.out];exact DE _) _;generalize WX.setCell ⟨gs,8,none⟩ (.int .i64 ((k:Int)+1))=w6 at c9 d6⊢;have g9:=zh d6;have e8:=zh c9;clear d6 c9;go_roundw
    case rel=>exact ⟨k+1,by omega,by
     show _=_;have:=a3.out;rw [show PL - k=(PL - (k+1))+1 from by omega,curF,if_pos ⟨by have:=V.out;omega,b7.out⟩] at this;exact this,g9.out,by have:=e8.out;exact this⟩
    case measure=>
     have h1:w6.cell? ⟨gs,8,none⟩=some (.int .i64 ((k:Int)+1)):=e8.out.cell (k:=8) rfl;have h2:wr.cell? ⟨gs,8,none⟩=some (.int .i64 k):=g7.out;simp only [h1,h2];omega
   | false=>
    have b6:Hid (AB m ch=k):=by
     show _=_;have:=a3.out;rw [show PL - k=(PL - (k+1))+1 from by omega,curF,if_neg (by rw [b7.out];simp)] at this;exact this.symm
    clear q5 q8 qt qp qx hx c8 f8;have D:zg WX (gm+1) 128 _:=HZ.out.ext (b8.out.trans J.out);have z0:=D.cell (k:=0) rfl;have z1:=D.cell (k:=1) rfl;have z2:=D.cell (k:=2) rfl;have z3:=D.cell (k:=3) rfl;have z4:=D.cell (k:=4) rfl;have z5:=D.cell (k:=5) rfl;have z6:=D.cell (k:=6) rfl;have z7:=D.cell (k:=7) rfl;have z8:=D.cell (k:=8) rfl;have c0:=E.out.cell (k:=0) rfl;have c1:=E.out.cell (k:=1) rfl;have c2:=E.out.cell (k:=2) rfl;have c3:=E.out.cell (k:=3) rfl;have c4:=E.out.cell (k:=4) rfl;have c5:=E.out.cell (k:=5) rfl;have c6:=E.out.cell (k:=6) rfl;have c7:=E.out.cell (k:=7) rfl;have c8:=E.out.cell (k:=8) rfl;have hfz:∀j,WX.frozen? ⟨gm+1,j,none⟩=false:=fun j=>D.frozen j
    have b4:=zh D;clear D
    go_wp2_with fail
    refine case_fin9 (P:=fun W=>bodyPost Tryz.prog Tryz.f66 _ Exit.ret _ W) (g2:=gm+1) ?_ b4.out;intro WZ G d7 e6;have y0:=G.cell (k:=0) rfl;have y1:=G.cell (k:=1) rfl;have y2:=G.cell (k:=2) rfl;have y3:=G.cell (k:=3) rfl;have y4:=G.cell (k:=4) rfl;have y5:=G.cell (k:=5) rfl;have y6:=G.cell (k:=6) rfl;have y7:=G.cell (k:=7) rfl;have y8:=G.cell (k:=8) rfl;refine Ev (v:=stv m (.slice Af m.free.length cf) (.slice Au m.up.length cu) (.slice (some ⟨bt,offt,none⟩) m.tasks.length ct) (.slice Ac ch.length cc) (.slice (some ⟨bp,offp,none⟩) PL cp) k) (by simp [results,Tryz.results66,go_sem,y0,y1,y2,y3,y4,y5,y6,y7,y8,stv]) rfl ⟨_,by rw [b6.out],?_,?_⟩
    ·exact Below.trans (M.out.trans J.out) (d7.mono (by have:=a0.out;omega))
    ·have hS:zZ (fun b=>(ok b\/w.heap.size<=b)/\b≠gm+1) WX WZ:=fun b I a6=>e6 b a6 I.2
     have a2:∀{b},b<w.heap.size->b≠gm+1:=fun I=>by have:=a0.out;omega
     refine ⟨?_,?_,?_⟩
     ·exact ((((b9.out.bound).keep (zZ.of_below (M.out.trans J.out))).weaken (fun b I=>⟨.inl I.1,a2 I.2⟩)).keep hS).weaken (fun _ I=>I.1)
     ·exact ((((b5.out.bound).keep (zZ.of_below (M.out.trans J.out))).weaken (fun b I=>⟨.inl I.1,a2 I.2⟩)).keep hS).weaken (fun _ I=>I.1)
     ·exact ((V.out ▸ f1.out.below J.out:zV WX (fun b=>(ok b\/w.heap.size<=b)/\b≠gm+1) _ (zr m ch)).keep hS).weaken (fun _ I=>I.1)
  ·have i8:¬ ((k:Int)<(PL:Int)):=by omega
   have b6:Hid (AB m ch=k):=by
    show _=_;have:=a3.out;rw [show PL - k=0 from by omega,curF] at this;exact this.symm
   have q8:=zc.rule c8;have hx:zc wr wr:=zc.refl wr;clear c0 c1 c2 c3 c4 c5 c6 c7 r0 r1 r2 r3 r4 r5
   go_wp2_with fail
   go_quiet (fail)
   have E:Hid (zg (wr.drewN nq) gs _ _):=hB.out.ext ((zc.refl wr).drewN _);have J:Hid (zc w3 (wr.drewN nq)):=hE.out.drewN _;clear q8 hx c8;generalize wr.drewN nq=WX at E J⊢;have D:zg WX (gm+1) 128 _:=HZ.out.ext (b8.out.trans J.out);have z0:=D.cell (k:=0) rfl;have z1:=D.cell (k:=1) rfl;have z2:=D.cell (k:=2) rfl;have z3:=D.cell (k:=3) rfl;have z4:=D.cell (k:=4) rfl;have z5:=D.cell (k:=5) rfl;have z6:=D.cell (k:=6) rfl;have z7:=D.cell (k:=7) rfl;have z8:=D.cell (k:=8) rfl;have c0:=E.out.cell (k:=0) rfl;have c1:=E.out.cell (k:=1) rfl;have c2:=E.out.cell (k:=2) rfl;have c3:=E.out.cell (k:=3) rfl;have c4:=E.out.cell (k:=4) rfl;have c5:=E.out.cell (k:=5) rfl;have c6:=E.out.cell (k:=6) rfl;have c7:=E.out.cell (k:=7) rfl;have c8:=E.out.cell (k:=8) rfl;have hfz:∀j,WX.frozen? ⟨gm+1,j,none⟩=false:=fun j=>D.frozen j
   have b4:=zh D;clear D
   go_wp2_with fail
   refine case_fin9 (P:=fun W=>bodyPost Tryz.prog Tryz.f66 _ Exit.ret _ W) (g2:=gm+1) ?_ b4.out;intro WZ G d7 e6;have y0:=G.cell (k:=0) rfl;have y1:=G.cell (k:=1) rfl;have y2:=G.cell (k:=2) rfl;have y3:=G.cell (k:=3) rfl;have y4:=G.cell (k:=4) rfl;have y5:=G.cell (k:=5) rfl;have y6:=G.cell (k:=6) rfl;have y7:=G.cell (k:=7) rfl;have y8:=G.cell (k:=8) rfl;refine Ev (v:=stv m (.slice Af m.free.length cf) (.slice Au m.up.length cu) (.slice At m.tasks.length ct) (.slice Ac ch.length cc) (.slice Ap PL cp) k) (by simp [results,Tryz.results66,go_sem,y0,y1,y2,y3,y4,y5,y6,y7,y8,stv]) rfl ⟨_,by rw [b6.out],?_,?_⟩
   ·exact Below.trans (M.out.trans J.out) (d7.mono (by have:=a0.out;omega))
   ·have hS:zZ (fun b=>(ok b\/w.heap.size<=b)/\b≠gm+1) WX WZ:=fun b I a6=>e6 b a6 I.2
    have a2:∀{b},b<w.heap.size->b≠gm+1:=fun I=>by have:=a0.out;omega
    refine ⟨?_,?_,?_⟩
    ·exact ((((b9.out.bound).keep (zZ.of_below (M.out.trans J.out))).weaken (fun b I=>⟨.inl I.1,a2 I.2⟩)).keep hS).weaken (fun _ I=>I.1)
    ·exact ((((b5.out.bound).keep (zZ.of_below (M.out.trans J.out))).weaken (fun b I=>⟨.inl I.1,a2 I.2⟩)).keep hS).weaken (fun _ I=>I.1)
    ·exact ((V.out ▸ f1.out.below J.out:zV WX (fun b=>(ok b\/w.heap.size<=b)/\b≠gm+1) _ (zr m ch)).keep hS).weaken (fun _ I=>I.1)
end
end Go.Proofs.YtfjjdmpndmbfoaaGreatDoor
