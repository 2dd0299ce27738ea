import Derived.Test.YthbjngbhbbkkgaaGreatHRk
set_option linter.unusedVariables false
set_option linter.unusedSimpArgs false
set_option maxRecDepth 100000
set_option maxHeartbeats 16000000
namespace Go.Proofs.YthbjngbhbbkkgaaGreat
variable {x:Int} {ch l:List Int} {m:MZ} {c g n:Nat} {ok:Nat->Prop} {W w:World}
section
open Go.RowKit
def AH (m:MZ) (ch:List Int):List (List Int):=zP m ch++(if zX m ch=true then [[]] else [])
theorem Ew (h:zX m ch=false):AH m ch=zP m ch:=by unfold AH;rw [h];simp
theorem splitL_cmp (h:zX m ch=true):AH m ch=zP m ch++[[]]:=by unfold AH;rw [h];simp
theorem finB_snoc {qs:List (List Int)} {p:List Int}:finB m (qs++[p++[x]])=decide (x∈(m.tasks.getD qs.length ([],[])).2):=by
 unfold finB;rw [EO,Ff,Nat.add_sub_cancel];have:(qs++[p++[x]]).getD qs.length []=p++[x]:=by simp [EF]
 rw [this];simp
theorem finB_nil {qs:List (List Int)}:finB m (qs++[[]])=false:=by
 unfold finB;rw [EO,Ff,Nat.add_sub_cancel];have:(qs++[([]:List Int)]).getD qs.length []=[]:=by simp [EF]
 rw [this];rfl
theorem addN_snoc {qs:List (List Int)} {p:List Int}:Cm (qs++[p]) x=qs++[p++[x]]:=by
 unfold Cm;rw [EO,Ff,Nat.add_sub_cancel,List.set_append_right _ _ (EG _)];simp
theorem split_step {qs:List (List Int)} {p:List Int} (x:Int) (B:zP m ch=qs++[p]) (E:qs.length<m.tasks.length):
  AH m (ch++[x])=qs++[p++[x]]++(if x∈(m.tasks.getD qs.length ([],[])).2 then [[]] else []):=by
 have z:decide (m.tasks.length=0)=false:=EK (by omega);unfold AH zX;rw [DM,B];unfold BQ;rw [addN_snoc,finB_snoc,EO,Ff];by_cases o:x∈(m.tasks.getD qs.length ([],[])).2
 ·rw [EJ o,if_pos o];by_cases D:qs.length+1<m.tasks.length
  ·rw [if_pos ⟨rfl,D⟩];unfold cmpB;rw [finB_nil,z];simp
  ·rw [if_neg (fun h=>D h.2)];unfold cmpB;rw [finB_snoc,z,EJ o,EJ (show (qs++[p++[x]]).length=m.tasks.length by simp;omega)];simp
 ·rw [EK o,if_neg o,if_neg (fun h=>by cases h.1)];unfold cmpB;rw [finB_snoc,z,EK o];simp
theorem splitL_nil (m:MZ):AH m []=[[]]:=by
 unfold AH zX;rw [psOf_nil];unfold ps0;by_cases h:m.tasks.length=0
 ·rw [if_pos h];unfold cmpB;rw [EJ h];simp
 ·rw [if_neg h];unfold cmpB;rw [EK h];have:finB m [[]]=false:=finB_nil (qs:=[]);rw [this];simp
theorem ps_form (h:zx m ch) (z:zX m ch=false):∃qs p,zP m ch=qs++[p]/\qs.length<m.tasks.length/\AH m ch=qs++[p]:=by
 have h1:=h.psOk;have h2:=h1.pn (Cp z);rcases List.eq_nil_or_concat (zP m ch) with h3 | ⟨qs,p,h3⟩
 ·rw [h3] at h2;simp at h2
 ·rw [List.concat_eq_append] at h3;have o:=h1.pl;rw [h3] at o;simp only [EO,Ff] at o;exact ⟨qs,p,h3,by omega,by rw [Ew z,h3]⟩
theorem splitL_len (h:zx m ch):(zX m ch=true->(AH m ch).length=m.tasks.length+1)/\(zX m ch=false->(AH m ch).length<=m.tasks.length/\0<(AH m ch).length):=by
 refine ⟨fun hc=>?_,fun hc=>?_⟩
 ·rw [splitL_cmp hc,EO,Ff];unfold zX cmpB at hc;rw [FK,ES,EQ,EQ] at hc;rcases hc with hc | hc
  ·have:=h.psOk.pl;omega
  ·omega
 ·obtain ⟨qs,p,h1,h2,h3⟩:=ps_form h hc;rw [h3,EO,Ff];omega
section
open Go.Lib
theorem Dm (d:Array Int) (B:∀i j,i<=j->j<d.size->d[i]!<=d[j]!):∀m,m<=d.size->(compactUpTo d m).Pairwise (·<·)/\∀x,x∈compactUpTo d m↔∃j,j<m/\d[j]! =x
 | 0,_=>⟨by simp [compactUpTo],fun x=>by simp [compactUpTo]⟩
 | m+1,hm=>by
  obtain ⟨h1,h2⟩:=Dm d B m (by omega);rw [compactUpTo_succ];by_cases hk:keeps d m=true
  ·rw [if_pos hk];refine ⟨?_,fun x=>?_⟩
   ·rw [List.pairwise_append];refine ⟨h1,by simp,fun a E b D=>?_⟩;rw [Fo] at D;subst D;obtain ⟨j,z,rfl⟩:=(h2 a).1 E;unfold keeps at hk;rw [EQ] at hk;rcases hk with hk | hk
    ·omega
    ·have h3:=B j (m - 1) (by omega) (by omega);have I:=B (m - 1) m (by omega) (by omega);omega
   ·rw [Fx,h2,Fo];constructor
    ·rintro (⟨j,z,e⟩ | e)
     ·exact ⟨j,by omega,e⟩
     ·exact ⟨m,by omega,e.symm⟩
    ·rintro ⟨j,z,e⟩;by_cases o:j=m
     ·subst o;exact .inr e.symm
     ·exact .inl ⟨j,by omega,e⟩
  ·rw [if_neg hk,List.append_nil];refine ⟨h1,fun x=>?_⟩;rw [h2];unfold keeps at hk;rw [EQ] at hk;have G:m≠0:=fun h=>hk (.inl h)
   have he:d[m]! =d[m - 1]!:=Decidable.byContradiction fun h=>hk (.inr h)
   constructor
   ·rintro ⟨j,z,e⟩;exact ⟨j,by omega,e⟩
   ·rintro ⟨j,z,e⟩;by_cases o:j=m
    ·subst o;exact ⟨j - 1,by omega,by rw [<-he];exact e⟩
    ·exact ⟨j,by omega,e⟩
theorem compact_sorted (l:List Int):(compact (BH l)).Pairwise (·<·)/\∀x,x∈compact (BH l)↔x∈l:=by
 have hp:(BH l).Pairwise (fun x y=>decide (x<=y)=true):=by
  unfold BH;exact List.pairwise_mergeSort (fun a b c h1 h2=>by simp only [EQ] at *;omega) (fun a b=>by simp only [FK,EQ];omega) l
 have D:∀i j,i<=j->j<(BH l).toArray.size->(BH l).toArray[i]!<=(BH l).toArray[j]!:=by
  intro i j B o;rw [List.size_toArray] at o;have z:i<(BH l).length:=by omega
  rw [getElem!_pos _ i (by simpa using z),getElem!_pos _ j (by simpa using o)];simp only [List.getElem_toArray];rcases Fc i j with h | h
  ·have:=List.pairwise_iff_getElem.1 hp i j z o h;simpa using this
  ·have:i=j:=by omega
   subst this;exact Int.le_refl _
 obtain ⟨h1,h2⟩:=Dm (BH l).toArray D (BH l).length (by simp);refine ⟨h1,fun x=>?_⟩;unfold compact;rw [h2,<-mem_sortL (l:=l)];constructor
 ·rintro ⟨j,o,e⟩;rw [getElem!_pos _ j (by simpa using o)] at e;simp only [List.getElem_toArray] at e;rw [<-e];exact EH o
 ·intro E;obtain ⟨j,o,e⟩:=Fm E;exact ⟨j,o,by rw [getElem!_pos _ j (by simpa using o)];simpa using e⟩
end
theorem pw_eq {l':List Int} (h:l.Pairwise (·<·)) (B:l'.Pairwise (·<·)) (he:∀x,x∈l↔x∈l'):l=l':=by
 have n1:l.Nodup:=h.imp (fun z=>by omega);have n2:l'.Nodup:=B.imp (fun z=>by omega);have o:l.Perm l':=(List.perm_ext_iff_of_nodup n1 n2).2 he;exact List.Perm.eq_of_pairwise (le:=fun a b=>a<b) (fun a b _ _ h1 h2=>by omega) h B o
theorem range_pw (n:Nat):((List.range n).map Int.ofNat).Pairwise (·<·):=by
 rw [List.pairwise_map];exact (List.pairwise_lt_range (n:=n)).imp (fun h=>by simpa using h)
def begL (m:MZ) (t:Nat) (ch:List Int):List Int:=((List.range m.n.toNat).map Int.ofNat).filter fun k=>decide (k∈(m.tasks.getD t ([],[])).1) && zi m t k && !decide (k∈ch)
theorem cand_beg (g:zC m) {qs:List (List Int)} (D:zP m ch=qs++[[]]) (G:zX m ch=false) (o:qs.length<m.tasks.length):cand m ch=begL m qs.length ch:=by
 unfold cand Ct;have h1:(qs++[([]:List Int)]).length - 1=qs.length:=by simp
 have h2:(qs++[([]:List Int)]).getD qs.length []=[]:=by simp [EF]
 unfold zX at G;rw [G,D,if_neg (by simp),h1,h2];show List.filter _ _=_;obtain ⟨s1,s2⟩:=compact_sorted (m.tasks.getD qs.length ([],[])).1;refine pw_eq (s1.filter _) ((range_pw _).filter _) fun x=>?_;show x∈List.filter _ _↔x∈begL m qs.length ch;unfold begL;rw [FG,FG,s2,FH];simp only [ES,EQ,Bool.not_eq_true',Fd,FI];constructor
 ·rintro ⟨z,B,E⟩;rw [EF,EE o,Fl] at z;have I:=g.tn _ (EH o) x (.inl z);refine ⟨⟨x.toNat,by omega,by show (x.toNat:Int)=x;omega⟩,⟨?_,B⟩,E⟩;rw [EF,EE o,Fl];exact z
 ·rintro ⟨_,⟨z,B⟩,E⟩;exact ⟨z,B,E⟩
theorem cand_on {qs:List (List Int)} {p:List Int} {y:Int} (o:zP m ch=qs++[p++[y]]) (z:zX m ch=false):cand m ch=(zl m y).filter (zN m ch qs.length p (m.tasks.getD qs.length ([],[])).1):=by
 unfold cand Ct;have h1:(qs++[p++[y]]).length - 1=qs.length:=by simp
 have h2:(qs++[p++[y]]).getD qs.length []=p++[y]:=by simp [EF]
 unfold zX at z;rw [z,o,if_neg (by simp),h1,h2];simp
theorem cand_cmp (o:zX m ch=true):cand m ch=[]:=by
 unfold cand Ct;unfold zX at o;rw [if_pos o]
structure SpA (w1 wr:World) (v u:Value) (vs:List Value) (S:Nat) (qs:List (List Int)) (p:List Int):Prop where
 ext:zb w1 wr
 lo:w1.heap.size<=S
 hi:S<=wr.heap.size
 own:Cd wr w1.heap.size v (vs++[u])
 vl:vs.length=qs.length
 old:∀(i:Nat) q,qs[i]?=some q->∃x,vs[i]?=some x/\zD wr w1.heap.size x q/\∀g,x.ownBlock=some g->g<S
 cur:zD wr S u p
def SpV (w1 wr:World) (v:Value) (qs:List (List Int)) (p:List Int):Prop:=∃u vs S,SpA w1 wr v u vs S qs p
theorem intsTake {A:Option Addr} {N:Nat} (h:zj w ok (.slice A n c) l) (E:N<=n):zj w ok (.slice A N c) (l.take N):=by
 obtain ⟨A',c',e,G,I,D⟩:=h;injection e with e1 e2 e3;subst e1 e2 e3;refine ⟨A,c,by rw [FA,Nat.min_eq_left (by omega)],by rw [FA];omega,by simp,fun hp=>?_⟩;rw [FA] at hp;obtain ⟨b,off,e,B,o⟩:=D (by omega);refine ⟨b,off,e,B,fun j u z=>o j u ?_⟩;rw [List.map_take,List.getElem?_take] at z
 split at z
 ·exact z
 ·cases z
theorem row_one {u:Value} (h:W.cell? ⟨g,0,none⟩=some u):AI W (fun _=>True) 1 (.slice (some ⟨g,0,none⟩) 1 1) 1 [u]:=
 ⟨some ⟨g,0,none⟩,1,rfl,EG _,rfl,fun _=>⟨g,0,rfl,trivial,fun j x o=>by
  match j,o with
  | 0,o=>
   have:x=u:=by simpa using o.symm
   subst this;exact h⟩⟩
theorem Cq {B:Nat} {v:Value} (h:zD w B v l):∃A n c,v=.slice A n c:=by
 obtain ⟨A,c,e,_⟩:=Bd h;exact ⟨A,_,c,e⟩
section
variable {w1 wr w':World} {v u u':Value} {vs:List Value} {S:Nat} {qs:List (List Int)} {p:List Int}
theorem SpA.more (h:SpA w1 wr v u vs S qs p) (o:zb wr w'):SpA w1 w' v u vs S qs p:=
 ⟨h.ext.trans o,h.lo,EI h.hi o.size,h.own.ext o,h.vl,fun i q z=>by
  obtain ⟨x,h1,h2,h3⟩:=h.old i q z;exact ⟨x,h1,h2.ext o,h3⟩,h.cur.ext o⟩
theorem SpV.more (h:SpV w1 wr v qs p) (o:zb wr w'):SpV w1 w' v qs p:=by
 obtain ⟨u,vs,S,h⟩:=h;exact ⟨u,vs,S,h.more o⟩
theorem SpA.form (h:SpA w1 wr v u vs S qs p):∃g c,v=.slice (some ⟨g,0,none⟩) (qs.length+1) c/\w1.heap.size<=g/\qs.length+1<=c/\wr.cell? ⟨g,qs.length,none⟩=some u:=by
 have B:(vs++[u]).length=qs.length+1:=by rw [EO,Ff,h.vl]
 have o:=h.own;unfold Cd at o;rw [B] at o;obtain ⟨g,c,rfl,z,D⟩:=World.ownsRow.form o (by omega);refine ⟨g,c,rfl,z,Ck o,?_⟩;rw [World.ownsRow.cellAt o _ (by omega),<-h.vl,EM (EG _),Nat.sub_self];rfl
theorem SpA.push (h:SpA w1 wr (.slice (some ⟨g,0,none⟩) n c) u vs S qs p) (J:zD w' S u' (p++[x])) (D:Hid (wr.grownBy w' u.ownBlock)):
  SpA w1 (w'.setCell ⟨g,qs.length,none⟩ u') (.slice (some ⟨g,0,none⟩) n c) u' vs S qs (p++[x]):=by
 have z:=h.cur;have o:Cd w' w1.heap.size (.slice (some ⟨g,0,none⟩) n c) (vs++[u]):=World.ownsRow.kept h.own D.out (own_ne h.own z (by decide));have L:w1.heap.size<=g:=(World.ownsRow.lt h.own g rfl).1;have E:zb w1 w':=Ad h.ext D h.ext.size (fun k M=>EI h.lo (Bg z M))
 have B:=(World.ownsRow.stored (n:=n) (cap:=c) (xs:=vs++[u]) (by
  have G:(vs++[u]).length=n:=by
   have h0:=o;unfold Cd at h0;obtain ⟨g',c',e,_,_⟩:=World.ownsRow.form h0 (by simp);injection e with _ e2 _;exact e2.symm
  have h0:=o;unfold Cd at h0
  rwa [G] at h0) qs.length u')
 refine ⟨E.setCell L _,h.lo,EI h.hi (by rw [World.setCell];simpa using D.out.size),?_,h.vl,fun i q O=>?_,?_⟩
 ·have h1:=B.1;rw [<-h.vl,List.set_append_right _ _ (EG _),Nat.sub_self] at h1
  have G:n=(vs++[u']).length:=by
   have:=B.1.1;rw [<-h.vl,List.set_append_right _ _ (EG _),Nat.sub_self] at this;simp at this⊢;omega
  unfold Cd;rw [<-G];rw [h.vl] at h1;exact h1
 ·obtain ⟨x',h1,h2,h3⟩:=h.old i q O
  have I:zD w' w1.heap.size x' q:=World.ownsRow.kept h2 D.out (by
   cases Q:x'.ownBlock with
   | none=>exact .inl rfl
   | some k=>
    refine .inr fun e=>?_
    have:=h3 k Q;have:=Bg z e.symm;omega)
  refine ⟨x',h1,ownsRow_setCell_other I (fun e=>?_) _,h3⟩;rcases own_ne I o (by decide) with h5 | h5
  ·rw [h5] at e;cases e
  ·exact h5 e
 ·refine ownsRow_setCell_other J (fun e=>?_) _;rcases own_ne J o (by decide) with h5 | h5
  ·rw [h5] at e;cases e
  ·exact h5 e
theorem SpA.slot (h:SpA w1 wr (.slice (some ⟨g,0,none⟩) n c) u vs S qs p) (z:Hid (wr.grownBy w' u.ownBlock)):
  w'.cell? ⟨g,qs.length,none⟩=some u/\w'.frozen? ⟨g,qs.length,none⟩=false/\zb w1 w':=by
 have o:Cd w' w1.heap.size (.slice (some ⟨g,0,none⟩) n c) (vs++[u]):=World.ownsRow.kept h.own z.out (own_ne h.own h.cur (by decide))
 have B:n=(vs++[u]).length:=by
  have h0:=o;unfold Cd at h0;obtain ⟨g',c',e,_,_⟩:=World.ownsRow.form h0 (by simp);injection e with _ e2 _
 unfold Cd at o;rw [<-B] at o;refine ⟨?_,World.ownsRow.frozenAt o _,Ad h.ext z h.ext.size (fun k D=>EI h.lo (Bg h.cur D))⟩;rw [World.ownsRow.cellAt o _ (by rw [B];simp [h.vl]),<-h.vl,EM (EG _),Nat.sub_self];rfl
theorem SpA.next {v':Value} (h:SpA w1 wr v u vs S qs p) (J:Cd w' w1.heap.size v' (vs++[u]++[.slice none 0 0])) (E:Hid (wr.grownBy w' v.ownBlock)):
  SpA w1 w' v' (.slice none 0 0) (vs++[u]) wr.heap.size (qs++[p]) []:=by
 have D:∀{x:Value} {B:Nat} {l:List Int},zD wr B x l->zD w' B x l:=fun I=>World.ownsRow.kept I E.out (own_ne I h.own (by decide))
 refine ⟨Ad h.ext E h.ext.size (fun k D=>(World.ownsRow.lt h.own k D).1),h.ext.size,E.out.size,J,by simp [h.vl],fun i q z=>?_,World.ownsRow_nil _ _ _ _⟩;rcases Fc i qs.length with hi | hi
 ·rw [EL hi] at z;obtain ⟨x,h1,h2,h3⟩:=h.old i q z;exact ⟨x,by rw [EL (by rw [h.vl];exact hi)];exact h1,D h2,fun g o=>Fh (h3 g o) h.hi⟩
 ·have G:i=qs.length:=by
   rcases Fc i (qs++[p]).length with h1 | h1
   ·simp at h1;omega
   ·rw [EZ h1] at z;cases z
  subst G;rw [EM (EG _),Nat.sub_self] at z;have hp:p=q:=by simpa using z
  subst hp;refine ⟨u,by rw [<-h.vl,EM (EG _),Nat.sub_self];rfl,(D h.cur).mono h.lo,fun g o=>(World.ownsRow.lt h.cur g o).2⟩
theorem SpA.intss (h:SpA w1 wr v u vs S qs p):zv wr (fun b=>w1.heap.size<=b) v (qs++[p]):=by
 refine ⟨vs++[u],?_,fun i q o=>?_⟩
 ·have h1:=AI.of_own h.own;have h2:(vs++[u]).length=(qs++[p]).length:=by simp [h.vl]
  rw [h2] at h1;exact h1
 ·rcases Fc i qs.length with hi | hi
  ·rw [EL hi] at o;obtain ⟨x,h1,h2,h3⟩:=h.old i q o;exact ⟨x,by rw [EL (by rw [h.vl];exact hi)];exact h1,AI.of_own h2⟩
  ·have z:i=qs.length:=by
    rcases Fc i (qs++[p]).length with h1 | h1
    ·simp at h1;omega
    ·rw [EZ h1] at o;cases o
   subst z;rw [EM (EG _),Nat.sub_self] at o;have hp:p=q:=by simpa using o
   subst hp;exact ⟨u,by rw [<-h.vl,EM (EG _),Nat.sub_self];rfl,AI.of_own (h.cur.mono h.lo)⟩
theorem SpV.intss (h:SpV w1 wr v qs p):zv wr (fun b=>w1.heap.size<=b) v (qs++[p]):=by
 obtain ⟨u,vs,S,h⟩:=h;exact h.intss
theorem SpA.init (h:zb w1 W):SpA w1 (W.alloc (.cells #[.slice none 0 0] 23)) (.slice (some ⟨W.heap.size,0,none⟩) 1 1) (.slice none 0 0) [] W.heap.size [] []:=
 ⟨h.alloc _,h.size,by simp,⟨rfl,.inr ⟨W.heap.size,1,#[.slice none 0 0],rfl,h.size,Fu W _,EG _,by decide,rfl,rfl⟩⟩,rfl,fun i q o=>by simp at o,World.ownsRow_nil _ _ _ _⟩
end
end
section
open Go.RowKit
attribute [local go_sem ↓] Go.wp_at_zero Go.wp_at_succ
def SpI (m:MZ) (ch:List Int) (w1 wr:World) (v:Value) (k:Nat):Prop:=∃qs p,AH m (ch.take k)=qs++[p]/\SpV w1 wr v qs p
theorem cmp_take (h:zx m ch) {k:Nat} (o:k<ch.length):zX m (ch.take k)=false:=Cb (h.at o)
theorem qsplit_calls {okc:Nat->Prop} {v vc:Value} (w:World) (hm:zw w ok v m) (g:zC m) (hl:Lens m) (b4:zj w okc vc ch) (hc:zx m ch):
  Calls Tryz.prog 121 #[v,vc] w fun e w'=>∃v',e=.returned v'/\zb w w'/\zv w' (fun b=>w.heap.size<=b) v' (AH m ch):=by
 have f0:=hc.len300 g;obtain ⟨vfr,vup,vts,rfl,_,_,d7⟩:=hm;have e0:=zh d7;obtain ⟨vst,⟨At,ct,rfl,f9,_⟩,_⟩:=d7;have f2:=zh b4;have c5:=b4;obtain ⟨A,c,rfl,f8,hr⟩:=b4;have HR:=zh hr;have HC:=zh hc;have HL:=zh hl;have g8:=g.tk;clear hr c5 hc g hl
 go_enter Tryz.func121,Tryz.ntmps121
 go_wp2_with fail
 generalize b0:w.alloc (.cells #[.int .i64 m.w,.int .i64 m.h,.int .i64 m.l,vfr,vup,.slice At m.tasks.length ct] 32)=w1;have a1:zb w w1:=by rw [<-b0];exact (zb.refl w).alloc _
 have c6:zk w1 w.heap.size 32 #[.int .i64 m.w,.int .i64 m.h,.int .i64 m.l,vfr,vup,.slice At m.tasks.length ct]:=by rw [<-b0];exact Fu _ _
 have d4:w1.heap.size=w.heap.size+1:=by rw [<-b0];simp
 clear b0;have r5:∀W,zb w1 W->W.cell? ⟨w.heap.size,5,none⟩=some (.slice At m.tasks.length ct):=zb.rule (c6.cell (k:=5) rfl);clear c6;have a6:Hid (SpI m ch w1 (w1.alloc (.cells #[.slice none 0 0] 23)) (.slice (some ⟨w1.heap.size,0,none⟩) 1 1) 0):=⟨[],[],by rw [List.take_zero,splitL_nil];rfl,_,_,_,SpA.init (zb.refl w1)⟩;generalize e8:w1.alloc (.cells #[.slice none 0 0] 23)=w2 at a6⊢;clear e8;rw [d4] at a6;clear d4
 go_wp2_with fail
 go_loopw [5,6] (fun v i wr=>∃k:Nat,k<=ch.length/\i=.int .i64 k/\Hid (SpI m ch w1 wr v k)) (fun _ i _=>ch.length - (intOf i).toNat)
 case atStart=>exact ⟨0,EU _,rfl,a6⟩
 clear a6
 case round=>
  obtain ⟨k,hk,rfl,hI⟩:=hrel;obtain ⟨wk,rfl⟩:∃wk:World,wk=wr:=⟨_,rfl⟩;obtain ⟨qs,p,c8,u,vs,S,a7⟩:=hI.out;clear hI;obtain ⟨gv,cv,rfl,g3,g0,e6⟩:=a7.form;have hx:zb w1 wk:=a7.ext;have b1:=zh a7;have a2:=zh c8;clear a7 c8;by_cases J:k<ch.length
  ·obtain ⟨b,off,rfl,_,T⟩:=zy HR.out J J;have a8:=cmp_take HC.out J
   have g4:p.length<=300:=by
    have h4:=a2.out;rw [Ew a8] at h4;have h5:=(HC.out.take k).psOk.fl;have h6:=flat_le (ps:=zP m (ch.take k)) (p:=p) (by rw [h4];simp);rw [h5,FA] at h6;omega
   have a9:qs.length<m.tasks.length:=by
    obtain ⟨qs',p',h1,h2,h3⟩:=ps_form (HC.out.take k) a8;have h4:=a2.out;rw [h3] at h4;have:=congrArg List.length h4;simp at this;omega
   have G:Hid (AH m (ch.take k++[ch[k]])=qs++[p++[ch[k]]]++(if ch[k]∈(m.tasks.getD qs.length ([],[])).2 then [[]] else [])):=split_step _ (by rw [<-Ew a8];exact a2.out) a9;rw [<-EN J] at G;obtain ⟨x,d8⟩:=zad (ch[k]);rw [<-d8] at T G;clear d8 a8;obtain ⟨bt,offt,sn,u1,u2,rfl,_,e4,e5,c4,e7,b7⟩:=AJ e0.out a9;have c7:=(HL.out.tl _ (EH a9)).2;have d5:(m.tasks.getD qs.length ([],[])).2=(m.tasks[qs.length]).2:=by simp [a9]
   rw [d5] at G;obtain ⟨tg,d6⟩:=zad ((m.tasks[qs.length]).2);rw [<-d6] at b7 c7 G;clear d5 d6 e7 e4 e5;have b9:=zh b7;clear b7;have rt:∀W,zb w1 W->W.cell? ⟨bt,offt+qs.length*3+2,none⟩=some u2:=fun W hW=>zb.rule c4 W (a1.trans hW)
   have rc:=zb.rule e6;have rx:∀W,zb w1 W->W.cell? ⟨b,off+k,none⟩=some (.int .i64 x):=fun W hW=>zb.rule T W (a1.trans hW)
   clear c4 T;have g5:decide ((m.tasks.length:Int)<=(qs.length:Int))=false:=EK (by omega);have g7:(qs.length:Int)<(qs.length:Int)+1:=by omega
   have g6:decide (m.tasks.length<=qs.length)=false:=EK (by omega)
   go_wp2_with fail
   refine EW (S:=(fun W=>zb w1 W)) Ag (hx.drew) fun zH=>?_;have a5:zb wk wk.drew:=(zb.refl wk).drew;generalize wk.drew=wd at a5 zH⊢;refine zf 0 zH ?_;refine zf 1 zH ?_;refine zf 2 zH ?_;refine zf 3 zH ?_;refine zf 4 zH ?_;refine zf 6 zH ?_;refine zf 7 zH ?_;refine zf 8 zH ?_;refine zf 9 zH ?_;simp only [za,ED];refine rdA [5,10] ?_;refine Fg rfl (fun K z=>?_) ?_
   ·have hx:=a5;go_simp;clear hx;refine zae z (zH) fun zH=>?_;clear z K
    refine zE 10 fun K z=>?_;go_simp;refine zae z (zH.alloc _) fun zH=>?_;clear z K
    refine zE 11 fun K z=>?_;have B:=zh (b1.out.more (a5.alloc (.cells #[.int .i64 x] 3)));refine Be (ok:=fun _=>True) (by rfl) _ _ _ (by rfl) S p [x] u _ (by rfl) (by rfl) B.out.cur (Dt (zr wd _ _ rfl)) B.out.hi (by simp;omega) ?_;intro u' w9 V U a4;obtain ⟨b3,b6,a0⟩:=B.out.slot U;have E:=zh (B.out.push V U);obtain ⟨A9,n9,c9,rfl⟩:=Cq V;clear V U a4;refine zae z (a0) fun zH=>?_;clear z K
    refine zE 12 fun K z=>?_;go_simp;refine zae z (a0) fun zH=>?_;clear z K
    refine zE 13 fun K z=>?_;go_simp;refine zae z (E.out.ext) fun zH=>?_;clear z K;try simp only [za,ED]
    refine Fk (by kernel_rfl) ?_ _
    go_wp2_with fail
    have a3:Hid (zb w1 (w9.setCell ⟨gv,qs.length,none⟩ (.slice A9 n9 c9))):=E.out.ext;generalize w9.setCell ⟨gv,qs.length,none⟩ (.slice A9 n9 c9)=wt at E a3 zH⊢;clear b3 b6 a0 B;have o:zb w1 wt:=a3.out;go_quiet ((go_at_call 12;refine (zU x _ (b9.out.below (a1.trans (o.drewN _))) (by omega)).mono ?_;rintro e w9 ⟨b5,rfl⟩;exact ⟨b5,⟨_,rfl⟩⟩))
    generalize hW:wt.drewN nq=wu;have b2:zb wt wu:=by rw [<-hW];exact (zb.refl wt).drewN _
    clear hW;have D:=zh (E.out.more b2);by_cases o:x∈tg
    ·rw [EJ o];have O:Hid (AH m (ch.take (k+1))=qs++[p++[x]]++[[]]):=by have:=G.out;rw [if_pos o] at this;exact this
     clear o
     go_wp2_with (at_builtin;refine BA (ok:=fun _=>True) rfl _ _ _ rfl w1.heap.size (vs++[.slice A9 n9 c9]) [.slice none 0 0] _ _ rfl rfl ?h1 ?h2 ?h3 ?d1 ?d2 ?_)
     case h1=>exact World.ownsRow.alloc D.out.own _
     case h2=>exact (row_one (zr _ _ _ rfl))
     case h3=>(simp [Value.oneCell'])
     case d1=>(have:=D.out.ext.size;simp;omega)
     case d2=>(have:=D.out.vl;simp;omega)
     intro v' w10 L I Q;have M:Hid (SpI m ch w1 w10 v' (k+1)):=⟨qs++[p++[x]],[],O.out,_,_,_,SpA.next (D.out.more ((zb.refl wu).alloc _)) (by simpa using L) I⟩;clear L I Q;go_wp2;go_roundw
     case rel=>exact ⟨k+1,J,by go_num,M⟩
     case measure=>simp [intOf];omega
    ·rw [EK o];have O:Hid (AH m (ch.take (k+1))=qs++[p++[x]]):=by have:=G.out;rw [if_neg o,List.append_nil] at this;exact this
     clear o;have M:Hid (SpI m ch w1 wu (.slice (some ⟨gv,0,none⟩) (qs.length+1) cv) (k+1)):=⟨qs,p++[x],O.out,_,_,_,D.out⟩;go_wp2;go_roundw
     case rel=>exact ⟨k+1,J,by go_num,M⟩
     case measure=>simp [intOf];omega
   refine Fg rfl (fun K z=>?_) .nil;go_simp;refine zae z (zH.alloc _) fun zH=>?_;clear z K
   refine zE 5 fun K z=>?_;have hx:=(a5.alloc (.cells #[.int .i64 x] 3));go_simp;clear hx;refine zae z (zH) fun zH=>?_;clear z K
   refine zE 11 fun K z=>?_;have B:=zh (b1.out.more (a5.alloc (.cells #[.int .i64 x] 3)));refine Be (ok:=fun _=>True) (by rfl) _ _ _ (by rfl) S p [x] u _ (by rfl) (by rfl) B.out.cur (Dt (zr wd _ _ rfl)) B.out.hi (by simp;omega) ?_;intro u' w9 V U a4;obtain ⟨b3,b6,a0⟩:=B.out.slot U;have E:=zh (B.out.push V U);obtain ⟨A9,n9,c9,rfl⟩:=Cq V;clear V U a4;refine zae z (a0) fun zH=>?_;clear z K
   refine zE 12 fun K z=>?_;go_simp;refine zae z (a0) fun zH=>?_;clear z K
   refine zE 13 fun K z=>?_;go_simp;refine zae z (E.out.ext) fun zH=>?_;clear z K;try simp only [za,ED]
   refine Fk (by kernel_rfl) ?_ _
   go_wp2_with fail
   have a3:Hid (zb w1 (w9.setCell ⟨gv,qs.length,none⟩ (.slice A9 n9 c9))):=E.out.ext;generalize w9.setCell ⟨gv,qs.length,none⟩ (.slice A9 n9 c9)=wt at E a3 zH⊢;clear b3 b6 a0 B;have o:zb w1 wt:=a3.out;go_quiet ((go_at_call 12;refine (zU x _ (b9.out.below (a1.trans (o.drewN _))) (by omega)).mono ?_;rintro e w9 ⟨b5,rfl⟩;exact ⟨b5,⟨_,rfl⟩⟩))
   generalize hW:wt.drewN nq=wu;have b2:zb wt wu:=by rw [<-hW];exact (zb.refl wt).drewN _
   clear hW;have D:=zh (E.out.more b2);by_cases o:x∈tg
   ·rw [EJ o];have O:Hid (AH m (ch.take (k+1))=qs++[p++[x]]++[[]]):=by have:=G.out;rw [if_pos o] at this;exact this
    clear o
    go_wp2_with (at_builtin;refine BA (ok:=fun _=>True) rfl _ _ _ rfl w1.heap.size (vs++[.slice A9 n9 c9]) [.slice none 0 0] _ _ rfl rfl ?h1 ?h2 ?h3 ?d1 ?d2 ?_)
    case h1=>exact World.ownsRow.alloc D.out.own _
    case h2=>exact (row_one (zr _ _ _ rfl))
    case h3=>(simp [Value.oneCell'])
    case d1=>(have:=D.out.ext.size;simp;omega)
    case d2=>(have:=D.out.vl;simp;omega)
    intro v' w10 L I Q;have M:Hid (SpI m ch w1 w10 v' (k+1)):=⟨qs++[p++[x]],[],O.out,_,_,_,SpA.next (D.out.more ((zb.refl wu).alloc _)) (by simpa using L) I⟩;clear L I Q;go_wp2;go_roundw
    case rel=>exact ⟨k+1,J,by go_num,M⟩
    case measure=>simp [intOf];omega
   ·rw [EK o];have O:Hid (AH m (ch.take (k+1))=qs++[p++[x]]):=by have:=G.out;rw [if_neg o,List.append_nil] at this;exact this
    clear o;have M:Hid (SpI m ch w1 wu (.slice (some ⟨gv,0,none⟩) (qs.length+1) cv) (k+1)):=⟨qs,p++[x],O.out,_,_,_,D.out⟩;go_wp2;go_roundw
    case rel=>exact ⟨k+1,J,by go_num,M⟩
    case measure=>simp [intOf];omega
  ·obtain rfl:k=ch.length:=by omega
   rw [ER] at a2;go_wp2;go_ret;refine ⟨_,rfl,a1.trans hx,?_⟩;rw [a2.out];exact b1.out.intss.weaken fun b hb=>EI a1.size hb
end
end Go.Proofs.YthbjngbhbbkkgaaGreat
