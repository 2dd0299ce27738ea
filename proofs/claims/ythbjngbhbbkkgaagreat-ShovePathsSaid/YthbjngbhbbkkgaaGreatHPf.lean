import Derived.Test.YthbjngbhbbkkgaaGreatHPe
import Derived.ArgAppend
set_option linter.unusedVariables false
set_option linter.unusedSimpArgs false
set_option maxRecDepth 100000
set_option maxHeartbeats 16000000
namespace Go.Proofs.YthbjngbhbbkkgaaGreat
variable {a:Act} {ops:Array Oper} {Q:Exit->Act->World->Prop} {d e:Int} {fr:Int->Bool} {F G:List (Int×Int)} {fixed:List (List Int)} {ch fm tg:List Int} {rest:List Oper} {m:MZ} {N c g k n t:Nat} {ok okc:Nat->Prop} {o:Oper} {A:Option Addr} {b:Option Int} {vc:Value} {W:World}
section
open Go.RowKit
def AR (m:MZ) (ch:List Int):List (List Int):=zY m ch++(if AZ m ch=true then [[]] else [])
theorem EE (h:AZ m ch=false):AR m ch=zY m ch:=by unfold AR;rw [h];simp
theorem splitL_cmp (h:AZ m ch=true):AR m ch=zY m ch++[[]]:=by unfold AR;rw [h];simp
theorem finB_snoc {qs:List (List Int)} {p:List Int} {x:Int}:finB m (qs++[p++[x]])=decide (x∈(m.tasks.getD qs.length ([],[])).2):=by
 unfold finB;rw [EV,Fo,Nat.add_sub_cancel];have:(qs++[p++[x]]).getD qs.length []=p++[x]:=by simp [EM]
 rw [this];simp
theorem finB_nil {qs:List (List Int)}:finB m (qs++[[]])=false:=by
 unfold finB;rw [EV,Fo,Nat.add_sub_cancel];have:(qs++[([]:List Int)]).getD qs.length []=[]:=by simp [EM]
 rw [this];rfl
theorem addN_snoc {qs:List (List Int)} {p:List Int} {x:Int}:Ct (qs++[p]) x=qs++[p++[x]]:=by
 unfold Ct;rw [EV,Fo,Nat.add_sub_cancel,List.set_append_right _ _ (EN _)];simp
theorem split_step {qs:List (List Int)} {p:List Int} (x:Int) (D:zY m ch=qs++[p]) (I:qs.length<m.tasks.length):
  AR m (ch++[x])=qs++[p++[x]]++(if x∈(m.tasks.getD qs.length ([],[])).2 then [[]] else []):=by
 have z:decide (m.tasks.length=0)=false:=ER (by omega);unfold AR AZ;rw [DX,D];unfold Ca;rw [addN_snoc,finB_snoc,EV,Fo];by_cases s:x∈(m.tasks.getD qs.length ([],[])).2
 ·rw [EQ s,if_pos s];by_cases E:qs.length+1<m.tasks.length
  ·rw [if_pos ⟨rfl,E⟩];unfold cmpB;rw [finB_nil,z];simp
  ·rw [if_neg (fun h=>E h.2)];unfold cmpB;rw [finB_snoc,z,EQ s,EQ (show (qs++[p++[x]]).length=m.tasks.length by simp;omega)];simp
 ·rw [ER s,if_neg s,if_neg (fun h=>by cases h.1)];unfold cmpB;rw [finB_snoc,z,ER s];simp
theorem splitL_nil (m:MZ):AR m []=[[]]:=by
 unfold AR AZ;rw [psOf_nil];unfold ps0;by_cases h:m.tasks.length=0
 ·rw [if_pos h];unfold cmpB;rw [EQ h];simp
 ·rw [if_neg h];unfold cmpB;rw [ER h];have:finB m [[]]=false:=finB_nil (qs:=[]);rw [this];simp
theorem ps_form (h:zC m ch) (z:AZ m ch=false):∃qs p,zY m ch=qs++[p]/\qs.length<m.tasks.length/\AR m ch=qs++[p]:=by
 have h1:=h.psOk;have h2:=h1.pn (Cx z);rcases List.eq_nil_or_concat (zY m ch) with h3 | ⟨qs,p,h3⟩
 ·rw [h3] at h2;simp at h2
 ·rw [List.concat_eq_append] at h3;have s:=h1.pl;rw [h3] at s;simp only [EV,Fo] at s;exact ⟨qs,p,h3,by omega,by rw [EE z,h3]⟩
theorem splitL_len (h:zC m ch):(AZ m ch=true->(AR m ch).length=m.tasks.length+1)/\(AZ m ch=false->(AR m ch).length<=m.tasks.length/\0<(AR m ch).length):=by
 refine ⟨fun hc=>?_,fun hc=>?_⟩
 ·rw [splitL_cmp hc,EV,Fo];unfold AZ cmpB at hc;rw [zae,EZ,EX,EX] at hc;rcases hc with hc | hc
  ·have:=h.psOk.pl;omega
  ·omega
 ·obtain ⟨qs,p,h1,h2,h3⟩:=ps_form h hc;rw [h3,EV,Fo];omega
section
open Go.Lib
theorem Dv (d:Array Int) (D:∀i j,i<=j->j<d.size->d[i]!<=d[j]!):∀m,m<=d.size->(compactUpTo d m).Pairwise (·<·)/\∀x,x∈compactUpTo d m↔∃j,j<m/\d[j]! =x
 | 0,_=>⟨by simp [compactUpTo],fun x=>by simp [compactUpTo]⟩
 | m+1,hm=>by
  obtain ⟨h1,h2⟩:=Dv d D m (by omega);rw [compactUpTo_succ];by_cases hk:keeps d m=true
  ·rw [if_pos hk];refine ⟨?_,fun x=>?_⟩
   ·rw [List.pairwise_append];refine ⟨h1,by simp,fun a I b E=>?_⟩;rw [Fv] at E;subst E;obtain ⟨j,z,rfl⟩:=(h2 a).1 I;unfold keeps at hk;rw [EX] at hk;rcases hk with hk | hk
    ·omega
    ·have h3:=D j (m - 1) (by omega) (by omega);have L:=D (m - 1) m (by omega) (by omega);omega
   ·rw [FE,h2,Fv];constructor
    ·rintro (⟨j,z,e⟩ | e)
     ·exact ⟨j,by omega,e⟩
     ·exact ⟨m,by omega,e.symm⟩
    ·rintro ⟨j,z,e⟩;by_cases s:j=m
     ·subst s;exact .inr e.symm
     ·exact .inl ⟨j,by omega,e⟩
  ·rw [if_neg hk,List.append_nil];refine ⟨h1,fun x=>?_⟩;rw [h2];unfold keeps at hk;rw [EX] at hk;have J:m≠0:=fun h=>hk (.inl h)
   have he:d[m]! =d[m - 1]!:=Decidable.byContradiction fun h=>hk (.inr h)
   constructor
   ·rintro ⟨j,z,e⟩;exact ⟨j,by omega,e⟩
   ·rintro ⟨j,z,e⟩;by_cases s:j=m
    ·subst s;exact ⟨j - 1,by omega,by rw [<-he];exact e⟩
    ·exact ⟨j,by omega,e⟩
theorem compact_sorted (l:List Int):(compact (BJ l)).Pairwise (·<·)/\∀x,x∈compact (BJ l)↔x∈l:=by
 have hp:(BJ l).Pairwise (fun x y=>decide (x<=y)=true):=by
  unfold BJ;exact List.pairwise_mergeSort (fun a b c h1 h2=>by simp only [EX] at *;omega) (fun a b=>by simp only [zae,EX];omega) l
 have E:∀i j,i<=j->j<(BJ l).toArray.size->(BJ l).toArray[i]!<=(BJ l).toArray[j]!:=by
  intro i j D s;rw [List.size_toArray] at s;have z:i<(BJ l).length:=by omega
  rw [getElem!_pos _ i (by simpa using z),getElem!_pos _ j (by simpa using s)];simp only [List.getElem_toArray];rcases Fk i j with h | h
  ·have:=List.pairwise_iff_getElem.1 hp i j z s h;simpa using this
  ·have:i=j:=by omega
   subst this;exact Int.le_refl _
 obtain ⟨h1,h2⟩:=Dv (BJ l).toArray E (BJ l).length (by simp);refine ⟨h1,fun x=>?_⟩;unfold compact;rw [h2,<-mem_sortL (l:=l)];constructor
 ·rintro ⟨j,s,e⟩;rw [getElem!_pos _ j (by simpa using s)] at e;simp only [List.getElem_toArray] at e;rw [<-e];exact EO s
 ·intro I;obtain ⟨j,s,e⟩:=Fu I;exact ⟨j,s,by rw [getElem!_pos _ j (by simpa using s)];simpa using e⟩
end
theorem pw_eq {l l':List Int} (h:l.Pairwise (·<·)) (D:l'.Pairwise (·<·)) (he:∀x,x∈l↔x∈l'):l=l':=by
 have n1:l.Nodup:=h.imp (fun z=>by omega);have n2:l'.Nodup:=D.imp (fun z=>by omega);have s:l.Perm l':=(List.perm_ext_iff_of_nodup n1 n2).2 he;exact List.Perm.eq_of_pairwise (le:=fun a b=>a<b) (fun a b _ _ h1 h2=>by omega) h D s
theorem range_pw (n:Nat):((List.range n).map Int.ofNat).Pairwise (·<·):=by
 rw [List.pairwise_map];exact (List.pairwise_lt_range (n:=n)).imp (fun h=>by simpa using h)
def begL (m:MZ) (t:Nat) (ch:List Int):List Int:=((List.range m.n.toNat).map Int.ofNat).filter fun k=>decide (k∈(m.tasks.getD t ([],[])).1) && zl m t k && !decide (k∈ch)
theorem cand_beg (g:zI m) {qs:List (List Int)} (E:zY m ch=qs++[[]]) (J:AZ m ch=false) (s:qs.length<m.tasks.length):Bw m ch=begL m qs.length ch:=by
 unfold Bw CC;have h1:(qs++[([]:List Int)]).length - 1=qs.length:=by simp
 have h2:(qs++[([]:List Int)]).getD qs.length []=[]:=by simp [EM]
 unfold AZ at J;rw [J,E,if_neg (by simp),h1,h2];show List.filter _ _=_;obtain ⟨s1,s2⟩:=compact_sorted (m.tasks.getD qs.length ([],[])).1;refine pw_eq (s1.filter _) ((range_pw _).filter _) fun x=>?_;show x∈List.filter _ _↔x∈begL m qs.length ch;unfold begL;rw [zab,zab,s2,zac];simp only [EZ,EX,Bool.not_eq_true',Fl,zad];constructor
 ·rintro ⟨z,D,I⟩;rw [EM,EL s,Ft] at z;have L:=g.tn _ (EO s) x (.inl z);refine ⟨⟨x.toNat,by omega,by show (x.toNat:Int)=x;omega⟩,⟨?_,D⟩,I⟩;rw [EM,EL s,Ft];exact z
 ·rintro ⟨_,⟨z,D⟩,I⟩;exact ⟨z,D,I⟩
theorem cand_on {qs:List (List Int)} {p:List Int} {y:Int} (s:zY m ch=qs++[p++[y]]) (z:AZ m ch=false):Bw m ch=(zm m y).filter (zT m ch qs.length p (m.tasks.getD qs.length ([],[])).1):=by
 unfold Bw CC;have h1:(qs++[p++[y]]).length - 1=qs.length:=by simp
 have h2:(qs++[p++[y]]).getD qs.length []=p++[y]:=by simp [EM]
 unfold AZ at z;rw [z,s,if_neg (by simp),h1,h2];simp
theorem cand_cmp (s:AZ m ch=true):Bw m ch=[]:=by
 unfold Bw CC;unfold AZ at s;rw [if_pos s]
structure SpA (w1 wr:World) (v u:Value) (vs:List Value) (S:Nat) (qs:List (List Int)) (p:List Int):Prop where
 ext:zb w1 wr
 lo:w1.heap.size<=S
 hi:S<=wr.heap.size
 own:Cf wr w1.heap.size v (vs++[u])
 vl:vs.length=qs.length
 old:∀(i:Nat) q,qs[i]?=some q->∃x,vs[i]?=some x/\zA wr w1.heap.size x q/\∀g,x.ownBlock=some g->g<S
 cur:zA wr S u p
def SpV (w1 wr:World) (v:Value) (qs:List (List Int)) (p:List Int):Prop:=∃u vs S,SpA w1 wr v u vs S qs p
theorem intsTake {w:World} {l:List Int} (h:zi w ok (.slice A n c) l) (I:N<=n):zi w ok (.slice A N c) (l.take N):=by
 obtain ⟨A',c',e,J,L,E⟩:=h;injection e with e1 e2 e3;subst e1 e2 e3;refine ⟨A,c,by rw [FH,Nat.min_eq_left (by omega)],by rw [FH];omega,by simp,fun hp=>?_⟩;rw [FH] at hp;obtain ⟨b,off,e,D,s⟩:=E (by omega);refine ⟨b,off,e,D,fun j u z=>s j u ?_⟩;rw [List.map_take,List.getElem?_take] at z
 split at z
 ·exact z
 ·cases z
theorem row_one {u:Value} (h:W.cell? ⟨g,0,none⟩=some u):zV W (fun _=>True) 1 (.slice (some ⟨g,0,none⟩) 1 1) 1 [u]:=
 ⟨some ⟨g,0,none⟩,1,rfl,EN _,rfl,fun _=>⟨g,0,rfl,trivial,fun j x s=>by
  match j,s with
  | 0,s=>
   have:x=u:=by simpa using s.symm
   subst this;exact h⟩⟩
theorem Cy {w:World} {B:Nat} {v:Value} {l:List Int} (h:zA w B v l):∃A n c,v=.slice A n c:=by
 obtain ⟨A,c,e,_⟩:=Bk h;exact ⟨A,_,c,e⟩
section
variable {w1 wr w':World} {v u u':Value} {vs:List Value} {S:Nat} {qs:List (List Int)} {p:List Int}
theorem SpA.more (h:SpA w1 wr v u vs S qs p) (s:zb wr w'):SpA w1 w' v u vs S qs p:=
 ⟨h.ext.trans s,h.lo,EP h.hi s.size,h.own.ext s,h.vl,fun i q z=>by
  obtain ⟨x,h1,h2,h3⟩:=h.old i q z;exact ⟨x,h1,h2.ext s,h3⟩,h.cur.ext s⟩
theorem SpV.more (h:SpV w1 wr v qs p) (s:zb wr w'):SpV w1 w' v qs p:=by
 obtain ⟨u,vs,S,h⟩:=h;exact ⟨u,vs,S,h.more s⟩
theorem SpA.form (h:SpA w1 wr v u vs S qs p):∃g c,v=.slice (some ⟨g,0,none⟩) (qs.length+1) c/\w1.heap.size<=g/\qs.length+1<=c/\wr.cell? ⟨g,qs.length,none⟩=some u:=by
 have D:(vs++[u]).length=qs.length+1:=by rw [EV,Fo,h.vl]
 have s:=h.own;unfold Cf at s;rw [D] at s;obtain ⟨g,c,rfl,z,E⟩:=World.ownsRow.form s (by omega);refine ⟨g,c,rfl,z,BG s,?_⟩;rw [World.ownsRow.cellAt s _ (by omega),<-h.vl,ET (EN _),Nat.sub_self];rfl
theorem SpA.push {x:Int} (h:SpA w1 wr (.slice (some ⟨g,0,none⟩) n c) u vs S qs p) (M:zA w' S u' (p++[x])) (E:Hid (wr.grownBy w' u.ownBlock)):
  SpA w1 (w'.setCell ⟨g,qs.length,none⟩ u') (.slice (some ⟨g,0,none⟩) n c) u' vs S qs (p++[x]):=by
 have z:=h.cur;have s:Cf w' w1.heap.size (.slice (some ⟨g,0,none⟩) n c) (vs++[u]):=World.ownsRow.kept h.own E.out (own_ne h.own z (by decide));have O:w1.heap.size<=g:=(World.ownsRow.lt h.own g rfl).1;have I:zb w1 w':=Ae h.ext E h.ext.size (fun k T=>EP h.lo (Bq z T))
 have D:=(World.ownsRow.stored (n:=n) (cap:=c) (xs:=vs++[u]) (by
  have J:(vs++[u]).length=n:=by
   have h0:=s;unfold Cf at h0;obtain ⟨g',c',e,_,_⟩:=World.ownsRow.form h0 (by simp);injection e with _ e2 _;exact e2.symm
  have h0:=s;unfold Cf at h0
  rwa [J] at h0) qs.length u')
 refine ⟨I.setCell O _,h.lo,EP h.hi (by rw [World.setCell];simpa using E.out.size),?_,h.vl,fun i q U=>?_,?_⟩
 ·have h1:=D.1;rw [<-h.vl,List.set_append_right _ _ (EN _),Nat.sub_self] at h1
  have J:n=(vs++[u']).length:=by
   have:=D.1.1;rw [<-h.vl,List.set_append_right _ _ (EN _),Nat.sub_self] at this;simp at this⊢;omega
  unfold Cf;rw [<-J];rw [h.vl] at h1;exact h1
 ·obtain ⟨x',h1,h2,h3⟩:=h.old i q U
  have L:zA w' w1.heap.size x' q:=World.ownsRow.kept h2 E.out (by
   cases V:x'.ownBlock with
   | none=>exact .inl rfl
   | some k=>
    refine .inr fun e=>?_
    have:=h3 k V;have:=Bq z e.symm;omega)
  refine ⟨x',h1,ownsRow_setCell_other L (fun e=>?_) _,h3⟩;rcases own_ne L s (by decide) with h5 | h5
  ·rw [h5] at e;cases e
  ·exact h5 e
 ·refine ownsRow_setCell_other M (fun e=>?_) _;rcases own_ne M s (by decide) with h5 | h5
  ·rw [h5] at e;cases e
  ·exact h5 e
theorem SpA.slot (h:SpA w1 wr (.slice (some ⟨g,0,none⟩) n c) u vs S qs p) (z:Hid (wr.grownBy w' u.ownBlock)):
  w'.cell? ⟨g,qs.length,none⟩=some u/\w'.frozen? ⟨g,qs.length,none⟩=false/\zb w1 w':=by
 have s:Cf w' w1.heap.size (.slice (some ⟨g,0,none⟩) n c) (vs++[u]):=World.ownsRow.kept h.own z.out (own_ne h.own h.cur (by decide))
 have D:n=(vs++[u]).length:=by
  have h0:=s;unfold Cf at h0;obtain ⟨g',c',e,_,_⟩:=World.ownsRow.form h0 (by simp);injection e with _ e2 _
 unfold Cf at s;rw [<-D] at s;refine ⟨?_,World.ownsRow.frozenAt s _,Ae h.ext z h.ext.size (fun k E=>EP h.lo (Bq h.cur E))⟩;rw [World.ownsRow.cellAt s _ (by rw [D];simp [h.vl]),<-h.vl,ET (EN _),Nat.sub_self];rfl
theorem SpA.next {v':Value} (h:SpA w1 wr v u vs S qs p) (L:Cf w' w1.heap.size v' (vs++[u]++[.slice none 0 0])) (E:Hid (wr.grownBy w' v.ownBlock)):
  SpA w1 w' v' (.slice none 0 0) (vs++[u]) wr.heap.size (qs++[p]) []:=by
 have D:∀{x:Value} {B:Nat} {l:List Int},zA wr B x l->zA w' B x l:=fun J=>World.ownsRow.kept J E.out (own_ne J h.own (by decide))
 refine ⟨Ae h.ext E h.ext.size (fun k D=>(World.ownsRow.lt h.own k D).1),h.ext.size,E.out.size,L,by simp [h.vl],fun i q z=>?_,World.ownsRow_nil _ _ _ _⟩;rcases Fk i qs.length with hi | hi
 ·rw [ES hi] at z;obtain ⟨x,h1,h2,h3⟩:=h.old i q z;exact ⟨x,by rw [ES (by rw [h.vl];exact hi)];exact h1,D h2,fun g s=>Fq (h3 g s) h.hi⟩
 ·have I:i=qs.length:=by
   rcases Fk i (qs++[p]).length with h1 | h1
   ·simp at h1;omega
   ·rw [Fg h1] at z;cases z
  subst I;rw [ET (EN _),Nat.sub_self] at z;have hp:p=q:=by simpa using z
  subst hp;refine ⟨u,by rw [<-h.vl,ET (EN _),Nat.sub_self];rfl,(D h.cur).mono h.lo,fun g s=>(World.ownsRow.lt h.cur g s).2⟩
theorem SpA.intss (h:SpA w1 wr v u vs S qs p):zq wr (fun b=>w1.heap.size<=b) v (qs++[p]):=by
 refine ⟨vs++[u],?_,fun i q s=>?_⟩
 ·have h1:=zV.of_own h.own;have h2:(vs++[u]).length=(qs++[p]).length:=by simp [h.vl]
  rw [h2] at h1;exact h1
 ·rcases Fk i qs.length with hi | hi
  ·rw [ES hi] at s;obtain ⟨x,h1,h2,h3⟩:=h.old i q s;exact ⟨x,by rw [ES (by rw [h.vl];exact hi)];exact h1,zV.of_own h2⟩
  ·have z:i=qs.length:=by
    rcases Fk i (qs++[p]).length with h1 | h1
    ·simp at h1;omega
    ·rw [Fg h1] at s;cases s
   subst z;rw [ET (EN _),Nat.sub_self] at s;have hp:p=q:=by simpa using s
   subst hp;exact ⟨u,by rw [<-h.vl,ET (EN _),Nat.sub_self];rfl,zV.of_own (h.cur.mono h.lo)⟩
theorem SpV.intss (h:SpV w1 wr v qs p):zq wr (fun b=>w1.heap.size<=b) v (qs++[p]):=by
 obtain ⟨u,vs,S,h⟩:=h;exact h.intss
theorem SpA.init (h:zb w1 W):SpA w1 (W.alloc (.cells #[.slice none 0 0] 23)) (.slice (some ⟨W.heap.size,0,none⟩) 1 1) (.slice none 0 0) [] W.heap.size [] []:=
 ⟨h.alloc _,h.size,by simp,⟨rfl,.inr ⟨W.heap.size,1,#[.slice none 0 0],rfl,h.size,FB W _,EN _,by decide,rfl,rfl⟩⟩,rfl,fun i q s=>by simp at s,World.ownsRow_nil _ _ _ _⟩
end
end
section
open Go.RowKit
attribute [local go_sem ↓] Go.wp_at_zero Go.wp_at_succ
def SpI (m:MZ) (ch:List Int) (w1 wr:World) (v:Value) (k:Nat):Prop:=∃qs p,AR m (ch.take k)=qs++[p]/\SpV w1 wr v qs p
theorem cmp_take (h:zC m ch) (s:k<ch.length):AZ m (ch.take k)=false:=CD (h.at s)
theorem qsplit_calls {v:Value} (w:World) (hm:zt w ok v m) (g:zI m) (hl:Lens m) (b7:zi w okc vc ch) (hc:zC m ch):
  Calls Tryz.prog 121 #[v,vc] w fun e w'=>∃v',e=.returned v'/\zb w w'/\zq w' (fun b=>w.heap.size<=b) v' (AR m ch):=by
 have f3:=hc.len300 g;obtain ⟨vfr,vup,vts,rfl,_,_,e0⟩:=hm;have e5:=zh e0;obtain ⟨vst,⟨At,ct,rfl,g4,_⟩,_⟩:=e0;have f5:=zh b7;have c8:=b7;obtain ⟨A,c,rfl,g3,hr⟩:=b7;have HR:=zh hr;have HC:=zh hc;have HL:=zh hl;have h8:=g.tk;clear hr c8 hc g hl
 go_enter Tryz.func121,Tryz.ntmps121
 go_wp2_with fail
 generalize b3:w.alloc (.cells #[.int .i64 m.w,.int .i64 m.h,.int .i64 m.l,vfr,vup,.slice At m.tasks.length ct] 32)=w1;have a4:zb w w1:=by rw [<-b3];exact (zb.refl w).alloc _
 have d4:zg w1 w.heap.size 32 #[.int .i64 m.w,.int .i64 m.h,.int .i64 m.l,vfr,vup,.slice At m.tasks.length ct]:=by rw [<-b3];exact FB _ _
 have d7:w1.heap.size=w.heap.size+1:=by rw [<-b3];simp
 clear b3;have r5:∀W,zb w1 W->W.cell? ⟨w.heap.size,5,none⟩=some (.slice At m.tasks.length ct):=zb.rule (d4.cell (k:=5) rfl);clear d4;have a9:Hid (SpI m ch w1 (w1.alloc (.cells #[.slice none 0 0] 23)) (.slice (some ⟨w1.heap.size,0,none⟩) 1 1) 0):=⟨[],[],by rw [List.take_zero,splitL_nil];rfl,_,_,_,SpA.init (zb.refl w1)⟩;generalize f1:w1.alloc (.cells #[.slice none 0 0] 23)=w2 at a9⊢;clear f1;rw [d7] at a9;clear d7
 go_wp2_with fail
 go_loopw [5,6] (fun v i wr=>∃k:Nat,k<=ch.length/\i=.int .i64 k/\Hid (SpI m ch w1 wr v k)) (fun _ i _=>ch.length - (intOf i).toNat)
 case atStart=>exact ⟨0,Fb _,rfl,a9⟩
 clear a9
 case round=>
  obtain ⟨k,hk,rfl,hI⟩:=hrel;obtain ⟨wk,rfl⟩:∃wk:World,wk=wr:=⟨_,rfl⟩;obtain ⟨qs,p,d6,u,vs,S,b0⟩:=hI.out;clear hI;obtain ⟨gv,cv,rfl,g6,g5,e9⟩:=b0.form;have hx:zb w1 wk:=b0.ext;have b4:=zh b0;have a5:=zh d6;clear b0 d6;by_cases M:k<ch.length
  ·obtain ⟨b,off,rfl,_,Z⟩:=zy HR.out M M;have b1:=cmp_take HC.out M
   have g7:p.length<=300:=by
    have h4:=a5.out;rw [EE b1] at h4;have h5:=(HC.out.take k).psOk.fl;have h6:=flat_le (ps:=zY m (ch.take k)) (p:=p) (by rw [h4];simp);rw [h5,FH] at h6;omega
   have b2:qs.length<m.tasks.length:=by
    obtain ⟨qs',p',h1,h2,h3⟩:=ps_form (HC.out.take k) b1;have h4:=a5.out;rw [h3] at h4;have:=congrArg List.length h4;simp at this;omega
   have J:Hid (AR m (ch.take k++[ch[k]])=qs++[p++[ch[k]]]++(if ch[k]∈(m.tasks.getD qs.length ([],[])).2 then [[]] else [])):=split_step _ (by rw [<-EE b1];exact a5.out) b2;rw [<-EU M] at J;obtain ⟨x,e3⟩:=zak (ch[k]);rw [<-e3] at Z J;clear e3 b1;obtain ⟨bt,offt,sn,u1,u2,rfl,_,e7,e8,c7,f0,c0⟩:=AO e5.out b2;have d5:=(HL.out.tl _ (EO b2)).2;have d8:(m.tasks.getD qs.length ([],[])).2=(m.tasks[qs.length]).2:=by simp [b2]
   rw [d8] at J;obtain ⟨tg,d9⟩:=zak ((m.tasks[qs.length]).2);rw [<-d9] at c0 d5 J;clear d8 d9 f0 e7 e8;have c5:=zh c0;clear c0;have rt:∀W,zb w1 W->W.cell? ⟨bt,offt+qs.length*3+2,none⟩=some u2:=fun W hW=>zb.rule c7 W (a4.trans hW)
   have rc:=zb.rule e9;have rx:∀W,zb w1 W->W.cell? ⟨b,off+k,none⟩=some (.int .i64 x):=fun W hW=>zb.rule Z W (a4.trans hW)
   clear c7 Z;have g8:decide ((m.tasks.length:Int)<=(qs.length:Int))=false:=ER (by omega);have h7:(qs.length:Int)<(qs.length:Int)+1:=by omega
   have g9:decide (m.tasks.length<=qs.length)=false:=ER (by omega)
   go_wp2_with fail
   refine Fd (S:=(fun W=>zb w1 W)) zU (hx.drew) fun zH=>?_;have a8:zb wk wk.drew:=(zb.refl wk).drew;generalize wk.drew=wd at a8 zH⊢;refine ze 0 zH ?_;refine ze 1 zH ?_;refine ze 2 zH ?_;refine ze 3 zH ?_;refine ze 4 zH ?_;refine ze 6 zH ?_;refine ze 7 zH ?_;refine ze 8 zH ?_;refine ze 9 zH ?_;simp only [za,EK];refine rdA [5,10] ?_;refine Fp rfl (fun K z=>?_) ?_
   ·have hx:=a8;go_simp;clear hx;refine zal z (zH) fun zH=>?_;clear z K
    refine zx 10 fun K z=>?_;go_simp;refine zal z (zH.alloc _) fun zH=>?_;clear z K
    refine zx 11 fun K z=>?_;have D:=zh (b4.out.more (a8.alloc (.cells #[.int .i64 x] 3)));refine Bl (ok:=fun _=>True) (by rfl) _ _ _ (by rfl) S p [x] u _ (by rfl) (by rfl) D.out.cur (DB (zr wd _ _ rfl)) D.out.hi (by simp;omega) ?_;intro u' w9 a1 a0 a7;obtain ⟨b6,b9,a3⟩:=D.out.slot a0;have I:=zh (D.out.push a1 a0);obtain ⟨A9,n9,c9,rfl⟩:=Cy a1;clear a1 a0 a7;refine zal z (a3) fun zH=>?_;clear z K
    refine zx 12 fun K z=>?_;go_simp;refine zal z (a3) fun zH=>?_;clear z K
    refine zx 13 fun K z=>?_;go_simp;refine zal z (I.out.ext) fun zH=>?_;clear z K;try simp only [za,EK]
    refine Fs (by kernel_rfl) ?_ _
    go_wp2_with fail
    have a6:Hid (zb w1 (w9.setCell ⟨gv,qs.length,none⟩ (.slice A9 n9 c9))):=I.out.ext;generalize w9.setCell ⟨gv,qs.length,none⟩ (.slice A9 n9 c9)=wt at I a6 zH⊢;clear b6 b9 a3 D;have s:zb w1 wt:=a6.out;go_quiet ((go_at_call 12;refine (zL x _ (c5.out.below (a4.trans (s.drewN _))) (by omega)).mono ?_;rintro e w9 ⟨b8,rfl⟩;exact ⟨b8,⟨_,rfl⟩⟩))
    generalize hW:wt.drewN nq=wu;have b5:zb wt wu:=by rw [<-hW];exact (zb.refl wt).drewN _
    clear hW;have E:=zh (I.out.more b5);by_cases s:x∈tg
    ·rw [EQ s];have U:Hid (AR m (ch.take (k+1))=qs++[p++[x]]++[[]]):=by have:=J.out;rw [if_pos s] at this;exact this
     clear s
     go_wp2_with (at_builtin;refine BH (ok:=fun _=>True) rfl _ _ _ rfl w1.heap.size (vs++[.slice A9 n9 c9]) [.slice none 0 0] _ _ rfl rfl ?h1 ?h2 ?h3 ?d1 ?d2 ?_)
     case h1=>exact World.ownsRow.alloc E.out.own _
     case h2=>exact (row_one (zr _ _ _ rfl))
     case h3=>(simp [Value.oneCell'])
     case d1=>(have:=E.out.ext.size;simp;omega)
     case d2=>(have:=E.out.vl;simp;omega)
     intro v' w10 O L V;have T:Hid (SpI m ch w1 w10 v' (k+1)):=⟨qs++[p++[x]],[],U.out,_,_,_,SpA.next (E.out.more ((zb.refl wu).alloc _)) (by simpa using O) L⟩;clear O L V;go_wp2;go_roundw
     case rel=>exact ⟨k+1,M,by go_num,T⟩
     case measure=>simp [intOf];omega
    ·rw [ER s];have U:Hid (AR m (ch.take (k+1))=qs++[p++[x]]):=by have:=J.out;rw [if_neg s,List.append_nil] at this;exact this
     clear s;have T:Hid (SpI m ch w1 wu (.slice (some ⟨gv,0,none⟩) (qs.length+1) cv) (k+1)):=⟨qs,p++[x],U.out,_,_,_,E.out⟩;go_wp2;go_roundw
     case rel=>exact ⟨k+1,M,by go_num,T⟩
     case measure=>simp [intOf];omega
   refine Fp rfl (fun K z=>?_) .nil;go_simp;refine zal z (zH.alloc _) fun zH=>?_;clear z K
   refine zx 5 fun K z=>?_;have hx:=(a8.alloc (.cells #[.int .i64 x] 3));go_simp;clear hx;refine zal z (zH) fun zH=>?_;clear z K
   refine zx 11 fun K z=>?_;have D:=zh (b4.out.more (a8.alloc (.cells #[.int .i64 x] 3)));refine Bl (ok:=fun _=>True) (by rfl) _ _ _ (by rfl) S p [x] u _ (by rfl) (by rfl) D.out.cur (DB (zr wd _ _ rfl)) D.out.hi (by simp;omega) ?_;intro u' w9 a1 a0 a7;obtain ⟨b6,b9,a3⟩:=D.out.slot a0;have I:=zh (D.out.push a1 a0);obtain ⟨A9,n9,c9,rfl⟩:=Cy a1;clear a1 a0 a7;refine zal z (a3) fun zH=>?_;clear z K
   refine zx 12 fun K z=>?_;go_simp;refine zal z (a3) fun zH=>?_;clear z K
   refine zx 13 fun K z=>?_;go_simp;refine zal z (I.out.ext) fun zH=>?_;clear z K;try simp only [za,EK]
   refine Fs (by kernel_rfl) ?_ _
   go_wp2_with fail
   have a6:Hid (zb w1 (w9.setCell ⟨gv,qs.length,none⟩ (.slice A9 n9 c9))):=I.out.ext;generalize w9.setCell ⟨gv,qs.length,none⟩ (.slice A9 n9 c9)=wt at I a6 zH⊢;clear b6 b9 a3 D;have s:zb w1 wt:=a6.out;go_quiet ((go_at_call 12;refine (zL x _ (c5.out.below (a4.trans (s.drewN _))) (by omega)).mono ?_;rintro e w9 ⟨b8,rfl⟩;exact ⟨b8,⟨_,rfl⟩⟩))
   generalize hW:wt.drewN nq=wu;have b5:zb wt wu:=by rw [<-hW];exact (zb.refl wt).drewN _
   clear hW;have E:=zh (I.out.more b5);by_cases s:x∈tg
   ·rw [EQ s];have U:Hid (AR m (ch.take (k+1))=qs++[p++[x]]++[[]]):=by have:=J.out;rw [if_pos s] at this;exact this
    clear s
    go_wp2_with (at_builtin;refine BH (ok:=fun _=>True) rfl _ _ _ rfl w1.heap.size (vs++[.slice A9 n9 c9]) [.slice none 0 0] _ _ rfl rfl ?h1 ?h2 ?h3 ?d1 ?d2 ?_)
    case h1=>exact World.ownsRow.alloc E.out.own _
    case h2=>exact (row_one (zr _ _ _ rfl))
    case h3=>(simp [Value.oneCell'])
    case d1=>(have:=E.out.ext.size;simp;omega)
    case d2=>(have:=E.out.vl;simp;omega)
    intro v' w10 O L V;have T:Hid (SpI m ch w1 w10 v' (k+1)):=⟨qs++[p++[x]],[],U.out,_,_,_,SpA.next (E.out.more ((zb.refl wu).alloc _)) (by simpa using O) L⟩;clear O L V;go_wp2;go_roundw
    case rel=>exact ⟨k+1,M,by go_num,T⟩
    case measure=>simp [intOf];omega
   ·rw [ER s];have U:Hid (AR m (ch.take (k+1))=qs++[p++[x]]):=by have:=J.out;rw [if_neg s,List.append_nil] at this;exact this
    clear s;have T:Hid (SpI m ch w1 wu (.slice (some ⟨gv,0,none⟩) (qs.length+1) cv) (k+1)):=⟨qs,p++[x],U.out,_,_,_,E.out⟩;go_wp2;go_roundw
    case rel=>exact ⟨k+1,M,by go_num,T⟩
    case measure=>simp [intOf];omega
  ·obtain rfl:k=ch.length:=by omega
   rw [EY] at a5;go_wp2;go_ret;refine ⟨_,rfl,a4.trans hx,?_⟩;rw [a5.out];exact b4.out.intss.weaken fun b hb=>EP a4.size hb
theorem qbehind_calls {v:Value} (w:World) (hm:zt w ok v m) (g:zI m) (hl:Lens m) (l1:zi w okc vc ch) (hc:zC m ch):
  Calls Tryz.prog 124 #[v,vc] w fun e w'=>∃v',e=.returned v'/\Mk w w' v' (Bw m ch):=by
 have q9:=hc.len300 g;have h7:=zh hm;obtain ⟨vfr,vup,vts,rfl,p5,_,m3⟩:=hm;obtain ⟨vsf,⟨Af,cf,rfl,s8,m1⟩,l3⟩:=p5;have k8:=zh m3;obtain ⟨vst,⟨At,ct,rfl,s9,-⟩,-⟩:=m3;have g8:=zh l1;obtain ⟨A,c,rfl,s7,hr⟩:=l1;have k7:=zh m1;have j9:=zh l3;have HC:=zh hc;have HL:=zh hl;have HG:=zh g;have w4:=g.tk;have k2:=zh g.fl;have t0:m.free.length<=6:=by rw [g.fl];exact g.tk
 have p9:=g.dim.layer;have t7:=g.dim.n1;obtain ⟨t5,t6⟩:=p9;clear hr hc g hl m1 l3
 go_enter Tryz.func124,Tryz.ntmps124
 go_wp2_with fail
 generalize j5:w.alloc (.cells #[.int .i64 m.w,.int .i64 m.h,.int .i64 m.l,.slice Af m.free.length cf,vup,.slice At m.tasks.length ct] 32)=w1;have E:zb w w1:=by rw [<-j5];exact (zb.refl w).alloc _
 have b7:zg w1 w.heap.size 32 #[.int .i64 m.w,.int .i64 m.h,.int .i64 m.l,.slice Af m.free.length cf,vup,.slice At m.tasks.length ct]:=by rw [<-j5];exact FB _ _
 clear j5;have r0:∀W,zb w1 W->W.cell? ⟨w.heap.size,0,none⟩=some (.int .i64 m.w):=zb.rule (b7.cell (k:=0) rfl);have r1:∀W,zb w1 W->W.cell? ⟨w.heap.size,1,none⟩=some (.int .i64 m.h):=zb.rule (b7.cell (k:=1) rfl);have r2:∀W,zb w1 W->W.cell? ⟨w.heap.size,2,none⟩=some (.int .i64 m.l):=zb.rule (b7.cell (k:=2) rfl);have r3:∀W,zb w1 W->W.cell? ⟨w.heap.size,3,none⟩=some (.slice Af m.free.length cf):=zb.rule (b7.cell (k:=3) rfl);have r4:∀W,zb w1 W->W.cell? ⟨w.heap.size,4,none⟩=some vup:=zb.rule (b7.cell (k:=4) rfl);have r5:∀W,zb w1 W->W.cell? ⟨w.heap.size,5,none⟩=some (.slice At m.tasks.length ct):=zb.rule (b7.cell (k:=5) rfl);clear b7;have w6:zb w1 w1:=zb.refl w1;refine (qsplit_calls w1 (h7.out.below E) HG.out HL.out (g8.out.below E) HC.out).mono ?_;rintro e w2 ⟨v2,rfl,q3,j2⟩;have hx:zb w1 w2:=q3
 cases c6:AZ m ch
 ·obtain ⟨qs,p,g5,b0,m2⟩:=ps_form HC.out c6;have d4:=zh g5;have j8:=zh c6;rw [m2] at j2;obtain ⟨vs,⟨Ap,cp,rfl,i5,e7⟩,f7⟩:=j2;have m0:(qs++[p]).length=qs.length+1:=by simp
  rw [m0] at i5 e7⊢;obtain ⟨bp,ofp,up,rfl,_,i6,j4⟩:=zO e7 f7 (k:=qs.length) (by omega) (by simp);have l6:(qs++[p])[qs.length]=p:=by simp
  rw [l6] at j4;clear e7 f7 m2 g5 c6 l6 m0;have ru:=zb.rule i6;have r9:zb w2 w2:=zb.refl w2;have t8:decide ((m.tasks.length:Int)<=(qs.length:Int))=false:=ER (by omega);have t9:decide (m.tasks.length<=qs.length)=false:=ER (by omega);have v3:(qs.length:Int)<(qs.length:Int)+1:=by omega
  have k6:=zh j4;obtain ⟨Aq,cq,rfl,l2,j3⟩:=j4;rcases List.eq_nil_or_concat p with rfl | ⟨q,y,rfl⟩
  ·have hz:([]:List Int).length=0:=rfl;rw [hz] at i6 ru l2 k6;obtain ⟨bt,offt,sn,u1,u2,rfl,_,i2,d7,i3,a8,f8⟩:=AO k8.out b0;have e3:=(HL.out.tl _ (EO b0)).1;have e8:(m.tasks.getD qs.length ([],[])).1=(m.tasks[qs.length]).1:=by simp [b0]
   have Z:Hid (Bw m ch=begL m qs.length ch):=cand_beg HG.out d4.out j8.out b0;unfold begL at Z;rw [e8] at Z;obtain ⟨fm,d8⟩:=zak ((m.tasks[qs.length]).1);rw [<-d8] at a8 e3 Z;clear e8 d8 i2 i3 f8;have h4:=zh a8;clear a8;have rt:∀W,zb w1 W->W.cell? ⟨bt,offt+qs.length*3+1,none⟩=some u1:=fun W hW=>zb.rule d7 W (E.trans hW)
   have a9:qs.length<m.free.length:=by rw [k2.out];exact b0
   obtain ⟨bf,off3,uf,rfl,_,a1,h9⟩:=zO k7.out j9.out a9 a9;have T:=HG.out.fn _ (EO a9);obtain ⟨A4,c4,rfl,i4,e6⟩:=h9;have d5:=zh e6;clear e6;have c8:Hid (∀x:Nat,(hx:x<(m.free[qs.length]).length)->(m.free[qs.length])[x]=zl m qs.length (x:Int)):=fun x hx=>by simp [zl,a9,hx]
   obtain ⟨fl,a4⟩:=zak (m.free[qs.length]);rw [<-a4] at a1 T i4 d5;have c9:Hid (∀x:Nat,(hx:x<fl.length)->fl[x]=zl m qs.length (x:Int)):=by subst a4;exact c8
   clear c8 a4;have rf:∀W,zb w1 W->W.cell? ⟨bf,off3+qs.length,none⟩=some (.slice A4 fl.length c4):=fun W hW=>zb.rule a1 W (E.trans hW)
   clear d7 a1;obtain ⟨N,hN⟩:∃N:Nat,m.w*m.h*m.l=(N:Int):=⟨(m.w*m.h*m.l).toNat,by omega⟩;have l4:fl.length=N:=by have:m.n=m.w*m.h*m.l:=rfl;omega
   have s4:N<=300:=by omega
   have o0:Hid (m.n.toNat=N):=by have:m.n=m.w*m.h*m.l:=rfl;show _=_;omega
   have HN:=zh hN;have g9:=zh l4;obtain ⟨PR,h8⟩:∃PR:Int->Bool,PR=fun k=>decide (k∈fm) && zl m qs.length k && !decide (k∈ch):=⟨_,rfl⟩
   rw [o0.out,<-h8] at Z;have o1:=zh h8;have d6:Hid (Mk w2 w2 (.slice none 0 0) (((List.range 0).map Int.ofNat).filter PR)):=Mk.nil w2;clear h8 T hN l4
   go_wp2_with fail
   go_loopw [8,9] (fun v i wr=>∃k:Nat,k<=N/\i=.int .i64 k/\Hid (Mk w2 wr v (((List.range k).map Int.ofNat).filter PR))) (fun _ i _=>N - (intOf i).toNat)
   case atStart=>exact ⟨0,Fb _,rfl,d6⟩
   clear d6
   case round=>
    obtain ⟨k,hk,rfl,hM⟩:=hrel;obtain ⟨wk,rfl⟩:∃wk:World,wk=wr:=⟨_,rfl⟩;have f1:zb w2 wk:=hM.out.ext;have a6:zb w1 wk:=hx.trans f1
    go_wp2_with fail
    refine (AA _ _ _ _ _ _ _ (by omega) (by omega)).mono ?_;rintro e wA ⟨rfl,f5⟩;rw [HN.out];have a0:=zh (hM.out.more f5);have a5:zb w1 wA:=a6.trans f5;have g6:zb w2 wA:=f1.trans f5;clear hM f1 a6 f5;by_cases J:k<N
    ·have U:((List.range (k+1)).map Int.ofNat).filter PR=((List.range k).map Int.ofNat).filter PR++[(k:Int)].filter PR:=by
      rw [List.range_succ,FG,FC];rfl
     have HS:=zh U;clear U;have j0:(((List.range k).map Int.ofNat).filter PR).length<=k:=EP (Fr _ _) (by simp);obtain ⟨lk,b1⟩:=zak (((List.range k).map Int.ofNat).filter PR);rw [<-b1] at a0 j0 HS;clear b1;have b8:k<fl.length:=by rw [g9.out];exact J
     obtain ⟨b4,off4,e4,_,a3⟩:=BR d5.out b8 b8;rw [c9.out k b8] at a3;subst e4;have rb:∀W,zb w1 W->W.cell? ⟨b4,off4+k,none⟩=some (.bool (zl m qs.length (k:Int))):=fun W hW=>zb.rule a3 W (E.trans hW)
     clear a3;have O:Hid (∀W,zb w1 W->Calls Tryz.prog 12 #[u1,.int .i64 k] W fun e w'=>e=.returned (.bool (decide ((k:Int)∈fm)))/\W=w'):=fun W hW=>zL _ W (h4.out.below (E.trans hW)) (by omega)
     have b5:Hid (∀W,zb w1 W->Calls Tryz.prog 12 #[.slice A ch.length c,.int .i64 k] W fun e w'=>e=.returned (.bool (decide ((k:Int)∈ch)))/\W=w'):=fun W hW=>zL _ W (g8.out.below (E.trans hW)) (by omega)
     have I:Hid (PR k=(decide ((k:Int)∈fm) && zl m qs.length k && !decide ((k:Int)∈ch))):=by rw [o1.out];rfl
     generalize decide ((k:Int)∈fm)=d1 at O I;generalize decide ((k:Int)∈ch)=d2 at b5 I;generalize zl m qs.length (k:Int)=d3 at rb I
     cases d1 <;> cases d2 <;> cases d3
     ·have D:Hid (((List.range (k+1)).map Int.ofNat).filter PR=lk):=by rw [HS.out,Fw (by rw [I.out];simp),List.filter_nil,List.append_nil];exact (by rfl:lk=lk)
      go_wp2_with fail
      refine (O.out _ a5).mono ?_;rintro e w8 ⟨rfl,rfl⟩
      go_wp2_with fail
      go_roundw
      case rel=>exact ⟨k+1,J,by go_num,by rw [D.out];exact a0⟩
      case measure=>simp [intOf];omega
     ·have D:Hid (((List.range (k+1)).map Int.ofNat).filter PR=lk):=by rw [HS.out,Fw (by rw [I.out];simp),List.filter_nil,List.append_nil];exact (by rfl:lk=lk)
      go_wp2_with fail
      refine (O.out _ a5).mono ?_;rintro e w8 ⟨rfl,rfl⟩
      go_wp2_with fail
      go_roundw
      case rel=>exact ⟨k+1,J,by go_num,by rw [D.out];exact a0⟩
      case measure=>simp [intOf];omega
     ·have D:Hid (((List.range (k+1)).map Int.ofNat).filter PR=lk):=by rw [HS.out,Fw (by rw [I.out];simp),List.filter_nil,List.append_nil];exact (by rfl:lk=lk)
      go_wp2_with fail
      refine (O.out _ a5).mono ?_;rintro e w8 ⟨rfl,rfl⟩
      go_wp2_with fail
      go_roundw
      case rel=>exact ⟨k+1,J,by go_num,by rw [D.out];exact a0⟩
      case measure=>simp [intOf];omega
     ·have D:Hid (((List.range (k+1)).map Int.ofNat).filter PR=lk):=by rw [HS.out,Fw (by rw [I.out];simp),List.filter_nil,List.append_nil];exact (by rfl:lk=lk)
      go_wp2_with fail
      refine (O.out _ a5).mono ?_;rintro e w8 ⟨rfl,rfl⟩
      go_wp2_with fail
      go_roundw
      case rel=>exact ⟨k+1,J,by go_num,by rw [D.out];exact a0⟩
      case measure=>simp [intOf];omega
     ·have D:Hid (((List.range (k+1)).map Int.ofNat).filter PR=lk):=by rw [HS.out,Fw (by rw [I.out];simp),List.filter_nil,List.append_nil];exact (by rfl:lk=lk)
      go_wp2_with fail
      refine (O.out _ a5).mono ?_;rintro e w8 ⟨rfl,rfl⟩
      go_wp2_with fail
      go_roundw
      case rel=>exact ⟨k+1,J,by go_num,by rw [D.out];exact a0⟩
      case measure=>simp [intOf];omega
     ·have D:Hid (((List.range (k+1)).map Int.ofNat).filter PR=lk++[(k:Int)]):=by rw [HS.out,FJ (by rw [I.out];simp),List.filter_nil];exact rfl
      go_wp2_with fail
      refine (O.out _ a5).mono ?_;rintro e w8 ⟨rfl,rfl⟩
      go_wp2_with fail
      refine (b5.out _ a5).mono ?_;rintro e w8 ⟨rfl,rfl⟩
      go_wp2_with (at_builtin;refine AP rfl _ _ rfl _ lk (k:Int) w2.heap.size wA.heap.size 1 _ rfl rfl (a0.out.own.alloc _) ?d1 ?d2 ?d3 ?_)
      (try case d1=>exact zr _ _ _ (by simp))
      case d2=>(first | (simp;done) | (have:=g6.size;simp;omega) | (have:=g6.size;omega))
      case d3=>omega
      intro v' wb e5 d9 i1;have f3:=zh ((a0.out.alloc _).app e5 d9);clear e5 d9 i1;go_wp2;go_roundw
      case rel=>exact ⟨k+1,J,by go_num,by rw [D.out];exact f3⟩
      case measure=>simp [intOf];omega
     ·have D:Hid (((List.range (k+1)).map Int.ofNat).filter PR=lk):=by rw [HS.out,Fw (by rw [I.out];simp),List.filter_nil,List.append_nil];exact (by rfl:lk=lk)
      go_wp2_with fail
      refine (O.out _ a5).mono ?_;rintro e w8 ⟨rfl,rfl⟩
      go_wp2_with fail
      go_roundw
      case rel=>exact ⟨k+1,J,by go_num,by rw [D.out];exact a0⟩
      case measure=>simp [intOf];omega
     ·have D:Hid (((List.range (k+1)).map Int.ofNat).filter PR=lk):=by rw [HS.out,Fw (by rw [I.out];simp),List.filter_nil,List.append_nil];exact (by rfl:lk=lk)
      go_wp2_with fail
      refine (O.out _ a5).mono ?_;rintro e w8 ⟨rfl,rfl⟩
      go_wp2_with fail
      refine (b5.out _ a5).mono ?_;rintro e w8 ⟨rfl,rfl⟩
      go_wp2_with fail
      go_roundw
      case rel=>exact ⟨k+1,J,by go_num,by rw [D.out];exact a0⟩
      case measure=>simp [intOf];omega
    ·obtain rfl:k=N:=by omega
     go_wp2;go_ret;refine ⟨_,rfl,(E.trans hx).mono_mk ?_⟩;rw [Z.out];exact a0.out
  ·rw [List.concat_eq_append] at*;obtain ⟨bq,ofq,rfl,_,i7⟩:=zy j3 (k:=q.length) (by simp) (by simp);have l7:(q++[y])[q.length]'(by simp)=y:=by simp
   rw [l7] at i7;have l9:(q++[y]).length=q.length+1:=by simp
   have r6:q.length+1<=300:=by
    have h5:=HC.out.psOk.fl;have h6:=flat_le (ps:=zY m ch) (p:=q++[y]) (by rw [d4.out];simp);rw [h5] at h6;omega
   have q4:0<=y/\y<m.w*m.h*m.l:=(HC.out.range HG.out).1 y (by rw [<-HC.out.psOk.fl,d4.out];simp);rw [l9] at i6 ru l2 k6;have ry:=zb.rule i7;have v4:((q.length:Int)+1==0)=false:=by rw [Fa];omega
   have v5:decide ((q.length:Int)+1=0)=false:=ER (by omega);have v6:(q.length:Int)<(q.length:Int)+1:=by omega
   have o4:Hid (∀j (hj:j<q.length),w2.cell? ⟨bq,ofq+j,none⟩=some (.int .i64 q[j])):=fun j hj=>by
    obtain ⟨b9,of9,e9,_,p4⟩:=zy j3 (k:=j) (by simp;omega) (by simp;omega);injection e9 with e9;injection e9 with e1 e2;subst e1 e2;rw [p4,List.getElem_append_left hj]
   have o3:Hid (∀j (hj:j<q.length),0<=q[j]/\q[j]<m.w*m.h*m.l):=fun j hj=>(HC.out.range HG.out).1 _ (by rw [<-HC.out.psOk.fl,d4.out];simp)
   clear i7 l7 j3 l9;obtain ⟨bt,offt,sn,u1,u2,rfl,_,i2,d7,i3,a8,f8⟩:=AO k8.out b0;have e3:=(HL.out.tl _ (EO b0)).1;have e8:(m.tasks.getD qs.length ([],[])).1=(m.tasks[qs.length]).1:=by simp [b0]
   have Z:Hid (Bw m ch=(zm m y).filter (zT m ch qs.length q (m.tasks.getD qs.length ([],[])).1)):=cand_on d4.out j8.out;rw [e8] at Z;obtain ⟨fm,d8⟩:=zak ((m.tasks[qs.length]).1);rw [<-d8] at a8 e3 Z;clear e8 d8 i2 i3 f8;have h4:=zh a8;clear a8;have rt:∀W,zb w1 W->W.cell? ⟨bt,offt+qs.length*3+1,none⟩=some u1:=fun W hW=>zb.rule d7 W (E.trans hW)
   have a9:qs.length<m.free.length:=by rw [k2.out];exact b0
   obtain ⟨bf,off3,uf,rfl,_,a1,h9⟩:=zO k7.out j9.out a9 a9;have T:=HG.out.fn _ (EO a9);obtain ⟨A4,c4,rfl,i4,e6⟩:=h9;have d5:=zh e6;clear e6;have c8:Hid (∀x:Nat,(hx:x<(m.free[qs.length]).length)->(m.free[qs.length])[x]=zl m qs.length (x:Int)):=fun x hx=>by simp [zl,a9,hx]
   obtain ⟨fl,a4⟩:=zak (m.free[qs.length]);rw [<-a4] at a1 T i4 d5;have c9:Hid (∀x:Nat,(hx:x<fl.length)->fl[x]=zl m qs.length (x:Int)):=by subst a4;exact c8
   clear c8 a4;have rf:∀W,zb w1 W->W.cell? ⟨bf,off3+qs.length,none⟩=some (.slice A4 fl.length c4):=fun W hW=>zb.rule a1 W (E.trans hW)
   clear d7 a1;have g9:Hid ((fl.length:Int)=m.n):=T;clear T;have p7:=Ba m y
   go_wp2_with fail
   obtain ⟨m8,m9⟩:=q4;have w0:IntKind.i64.wrap ((q.length:Int)+1 - 1)=(q.length:Int):=by rw [Fi];omega
   have r7:IntKind.i64.wrap (q.length:Int)=(q.length:Int):=by rw [Fi];omega
   have v7:(0:Int)<=(q.length:Int):=by omega
   have hR:=zh (zb.refl w2)
   go_region_held3 (fun w'=>zb w1 w'/\zb w2 w')
    (first | (exact DR hx) | (exact held_ext (by assumption) l0))
    ((go_at_call 81;refine (DK m y _ (h7.out.below (E.trans hx.drew)) HG.out.dim m8 m9).mono ?_;rintro e w9 ⟨v9,rfl,l0,j1⟩))
   rename_i hS
   have s1:=zh hS;have j6:zb w1 w9:=hS.1;have m4:zb w2 w9:=hS.2;have k5:Hid (zA w9 w2.drew.heap.size v9 (zm m y)):=j1;obtain ⟨A3,c3,rfl,p3,p8⟩:=zV.of_own j1;clear j1 l0 hS p8;obtain ⟨L,hL⟩:=zak (zm m y);rw [<-hL] at k5 Z p3 p7⊢;have n7:=zh hL;obtain ⟨F,hF⟩:=zak (zT m ch qs.length q fm);rw [<-hF] at Z;have n5:=zh hF;have d6:Hid (Mk w9 w9 (.slice none 0 0) ((L.take 0).filter F)):=Mk.nil w9;clear hL hF
   go_wp2_with fail
   go_loopw [8,11] (fun v i wr=>∃k:Nat,k<=L.length/\i=.int .i64 k/\Hid (Mk w9 wr v ((L.take k).filter F))) (fun _ i _=>L.length - (intOf i).toNat)
   case atStart=>exact ⟨0,Fb _,rfl,d6⟩
   clear d6
   case round=>
    obtain ⟨k,hk,rfl,hM⟩:=hrel;obtain ⟨wk,rfl⟩:∃wk:World,wk=wr:=⟨_,rfl⟩;have m5:zb w9 wk:=hM.out.ext;have a6:zb w1 wk:=j6.trans m5;by_cases J:k<L.length
    ·obtain ⟨b3,rfl,f4,b6⟩:=own_at k5.out J
     have U:(L.take (k+1)).filter F=(L.take k).filter F++[L[k]].filter F:=by
      rw [EU J,FC]
     have m6:0<=L[k]/\L[k]<m.n:=AG HG.out.dim m8 (show y<m.n from m9) (by rw [<-n7.out];exact EO J);obtain ⟨x,m7⟩:=zak (L[k]);rw [<-m7] at b6 U m6;have HS:=zh U;clear U m7;obtain ⟨X,hX⟩:∃X:Nat,(X:Int)=x:=⟨x.toNat,by omega⟩;have b8:X<fl.length:=by have:=g9.out;omega
     obtain ⟨b4,off4,e4,_,a3⟩:=BR d5.out b8 b8;rw [c9.out X b8] at a3;subst e4;subst hX;have rb:∀W,zb w1 W->W.cell? ⟨b4,off4+X,none⟩=some (.bool (zl m qs.length (X:Int))):=fun W hW=>zb.rule a3 W (E.trans hW)
     have rx:∀W,zb w9 W->W.cell? ⟨b3,k,none⟩=some (.int .i64 (X:Int)):=zb.rule b6;have s6:(0:Int)<=(X:Int):=by omega
     have o7:(X:Int)<(fl.length:Int):=by omega
     have j0:((L.take k).filter F).length<=k:=EP (Fr _ _) (by simp;omega);obtain ⟨lk,b1⟩:=zak ((L.take k).filter F);rw [<-b1] at hM j0 HS;clear b6 a3 b1 m6;have O:Hid (∀W,zb w1 W->Calls Tryz.prog 12 #[u1,.int .i64 X] W fun e w'=>e=.returned (.bool (decide ((X:Int)∈fm)))/\W=w'):=fun W hW=>zL _ W (h4.out.below (E.trans hW)) (by omega)
     have b5:Hid (∀W,zb w1 W->Calls Tryz.prog 12 #[.slice A ch.length c,.int .i64 X] W fun e w'=>e=.returned (.bool (decide ((X:Int)∈ch)))/\W=w'):=fun W hW=>zL _ W (g8.out.below (E.trans hW)) (by omega)
     have I:Hid (F X=(zl m qs.length X && !decide ((X:Int)∈ch) && !(q.any fun y=>decide ((X:Int)∈zm m y)) && !decide ((X:Int)∈fm))):=by rw [n5.out];rfl
     generalize decide ((X:Int)∈fm)=d1 at O I;generalize decide ((X:Int)∈ch)=d2 at b5 I;generalize zl m qs.length (X:Int)=d3 at rb I
     go_wp2_with fail
     have v8:(X:Int)<(fl.length:Int):=o7;go_cut [12] (fun s wx=>s=.bool (d3 && !d2 && !d1)/\Hid (zb wk wx))
     case first=>
      cases d1 <;> cases d2 <;> cases d3
      all_goals
       go_quiet (first | (go_at_call 12;with_reducible refine (O.out _ (a6.drewN _)).mono ?_;rintro e w8 ⟨i9,rfl⟩;exact ⟨i9,⟨_,rfl⟩⟩) | (go_at_call 12;with_reducible refine (b5.out _ (a6.drewN _)).mono ?_;rintro e w8 ⟨i9,rfl⟩;exact ⟨i9,⟨_,rfl⟩⟩))
       go_wp2_with fail
       go_meet;exact ⟨rfl,(zb.refl wk).drewN _⟩
     case rest=>
      obtain ⟨rfl,hE⟩:=hcut;have f3:=zh (hM.out.more hE.out);have r8:zb w1 wc:=a6.trans hE.out;clear hM hE rb O b5
      have g4:Hid (F X=((d3 && !d2 && !d1) && !(q.any fun y=>decide ((X:Int)∈zm m y)))):=by
       show _=_;rw [I.out]
       cases d1 <;> cases d2 <;> cases d3 <;> simp
      clear I;obtain ⟨g0,l5⟩:=zak ((d3 && !d2 && !d1));rw [<-l5] at g4⊢;clear l5
      go_wp2_with fail
      go_loopw [12,13] (fun gv i wr=>∃i0:Nat,i0<=q.length/\i=.int .i64 i0/\gv=.bool (g0 && !((q.take i0).any fun y=>decide ((X:Int)∈zm m y)))/\Hid (Mk w9 wr u8 lk)) (fun _ i _=>q.length - (intOf i).toNat)
      case atStart=>exact ⟨0,Fb _,rfl,by simp,f3⟩
      clear f3
      case round=>
       obtain ⟨i0,t2,rfl,rfl,hM⟩:=hrel;obtain ⟨wj,rfl⟩:∃wj:World,wj=wr:=⟨_,rfl⟩;obtain ⟨bb,V⟩:=zak ((g0 && !((q.take i0).any fun y=>decide ((X:Int)∈zm m y))));rw [<-V];have a7:zb w9 wj:=hM.out.ext;have f0:zb w1 wj:=j6.trans a7;have g7:zb w2 wj:=m4.trans a7;by_cases M:i0<q.length/\bb=true
       ·obtain ⟨M,rfl⟩:=M;have i8:=o4.out i0 M;obtain ⟨n0,f9⟩:=o3.out i0 M
        have k4:Hid ((g0 && !((q.take (i0+1)).any fun y=>decide ((X:Int)∈zm m y)))=!decide ((X:Int)∈zm m q[i0])):=by
         show _=_;have h1:=V.symm;rw [EZ,Bool.not_eq_true'] at h1;rw [EU M,List.any_append,h1.1,h1.2];simp
        obtain ⟨z,hz⟩:=zak (q[i0]);rw [<-hz] at i8 k4 n0 f9;have rz:=zb.rule i8;have a8:(i0:Int)+1<(q.length:Int)+1:=by omega
        have f8:i0<q.length+1:=by omega
        have t3:(i0:Int)<(q.length:Int)+1:=by omega
        have e0:decide ((i0:Int)+1<(q.length:Int)+1)=true:=EQ a8;clear i8 V hz;have n8:=zh (hM.out.drew)
        go_wp2_with fail
        go_region_held3 (fun w'=>(zb w1 w'/\zb w2 w'/\zb w9 w')/\zb wj w')
         (first | (exact ⟨⟨f0.drew,g7.drew,a7.drew⟩,(zb.refl _).drew⟩) | (exact ⟨⟨f0.drew.trans c5,g7.drew.trans c5,a7.drew.trans c5⟩,(zb.refl _).drew.trans c5⟩))
         (first | (go_at_call 81;refine (DK m z _ (h7.out.below (E.trans f0.drew)) HG.out.dim n0 f9).mono ?_;rintro e wn ⟨v9,rfl,c5,l8⟩) | (go_at_call 12;refine (zL (X:Int) _ (zV.of_own l8) (by have:=Ba m z;omega)).mono ?_;rintro e w10 ⟨rfl,rfl⟩))
        rename_i hS
        have n9:=zh (n8.out.more c5);clear c5 l8 hS
        go_wp2_with fail
        go_roundw
        case rel=>exact ⟨i0+1,M,by go_num,by rw [k4.out],n9⟩
        case measure=>simp [intOf];omega
       ·have k3:Hid (F X=bb):=by
         show _=_;rw [g4.out,V];by_cases E:i0<q.length
         ·have o8:bb=false:=by
           cases f4:bb
           ·rfl
           ·exact absurd ⟨E,f4⟩ M
          rw [o8] at V;rw [<-V]
          cases hg:g0
          ·rfl
          ·rw [hg,Bool.true_and] at V;have V:=V.symm;rw [Bool.not_eq_false',zaf] at V;obtain ⟨z,f9,q5⟩:=V;rw [Bool.true_and,Bool.not_eq_false',zaf];exact ⟨z,List.mem_of_mem_take f9,q5⟩
         ·rw [List.take_of_length_le (by omega)]
        clear V
        have f6:(decide ((i0:Int)+1<(q.length:Int)+1) && bb)=false:=by
         cases f4:bb
         ·rw [Bool.and_false]
         ·rw [Bool.and_true,Fl];intro h;exact M ⟨by omega,f4⟩
        cases bb
        ·have D:Hid ((L.take (k+1)).filter F=lk):=by rw [HS.out,Fw (by rw [k3.out];simp),List.filter_nil,List.append_nil];exact (by rfl:lk=lk)
         clear M f6;by_cases q7:i0<q.length
         ·have e0:decide ((i0:Int)+1<(q.length:Int)+1)=true:=EQ (by omega)
          go_wp2_with fail
          go_roundw
          case rel=>exact ⟨k+1,J,by go_num,by rw [D.out];exact hM⟩
          case measure=>simp [intOf];omega
         ·have e0:decide ((i0:Int)+1<(q.length:Int)+1)=false:=ER (by omega)
          go_wp2_with fail
          go_roundw
          case rel=>exact ⟨k+1,J,by go_num,by rw [D.out];exact hM⟩
          case measure=>simp [intOf];omega
        ·have D:Hid ((L.take (k+1)).filter F=lk++[(X:Int)]):=by rw [HS.out,FJ (by rw [k3.out]),List.filter_nil];exact rfl
         have e0:decide ((i0:Int)+1<(q.length:Int)+1)=false:=by rw [Bool.and_true] at f6;exact f6
         have p6:i0=q.length:=by rw [Fl] at e0;omega
         subst p6;clear e0;clear M f6
         go_wp2_with (at_builtin;refine AP rfl _ _ rfl _ lk (X:Int) w9.heap.size wj.heap.size 1 _ rfl rfl (hM.out.own.alloc _) ?d1 ?d2 ?d3 ?_)
         (try case d1=>exact zr _ _ _ (by simp))
         case d2=>(first | (simp;done) | (have:=a7.size;simp;omega) | (have:=a7.size;omega))
         case d3=>omega
         intro v' wb e5 d9 i1;have k9:=zh ((hM.out.alloc _).app e5 d9);clear e5 d9 i1;go_wp2;go_roundw
         case rel=>exact ⟨k+1,J,by go_num,by rw [D.out];exact k9⟩
         case measure=>simp [intOf];omega
    ·obtain rfl:k=L.length:=by omega
     go_wp2;go_ret;refine ⟨_,rfl,(E.trans j6).mono_mk ?_⟩;rw [Z.out];have:=hM.out
     rwa [EY] at this
 ·have h1:=(splitL_len HC.out).1 c6;have n4:=zh (cand_cmp c6);obtain ⟨vs,⟨Ap,cp,rfl,i5,e7⟩,f7⟩:=j2;rw [h1] at i5⊢;clear e7 f7 h1 c6;go_wp2;go_ret;refine ⟨_,rfl,?_⟩;rw [n4.out];exact Mk.nil' (E.trans hx)
theorem qchosen_calls {v:Value} (w:World) (hm:zt w ok v m) (hl:Lens m) (a7:zi w okc vc ch) (e3:ch.length<=20000000000000):
  Calls Tryz.prog 120 #[v,vc] w fun e w'=>e=.returned (.bool (EH m ch))/\zb w w':=by
 have a3:=zh hm;obtain ⟨vfr,vup,vts,rfl,-,-,-⟩:=hm;have b4:=zh a7;obtain ⟨A,c,rfl,d6,hr⟩:=a7;have HR:=zh hr;have HL:=zh hl;clear hr hl;obtain ⟨ck,a8⟩:=zak (AY m);have M:=zh a8;clear a8
 go_enter Tryz.func120,Tryz.ntmps120
 go_wp2_with fail
 generalize Z:w.alloc (.cells #[.int .i64 m.w,.int .i64 m.h,.int .i64 m.l,vfr,vup,vts] 32)=w1;have z:zb w w1:=by rw [<-Z];exact (zb.refl w).alloc _
 have b0:zg w1 w.heap.size 32 #[.int .i64 m.w,.int .i64 m.h,.int .i64 m.l,vfr,vup,vts]:=by rw [<-Z];exact FB _ _
 clear Z;obtain ⟨m0,m1,m2,m3,m4,m5⟩:=zn b0;have c0:=zb.rule m0;have c1:=zb.rule m1;have c2:=zb.rule m2;have c3:=zb.rule m3;have c4:=zb.rule m4;have c5:=zb.rule m5;clear m0 m1 m2 m3 m4 m5 b0;refine (Cm w1 (a3.out.below z) HL.out).mono ?_;rintro e w2 ⟨rfl,a0⟩;have a0:zb w1 w2:=a0;have a6:zb w w2:=z.trans a0;rw [<-M.out];by_cases h0:ck=0
 case neg=>
  have e6:(ck==0)=false:=by rw [Fa];exact h0
  have e7:(ck != 0)=true:=by rw [bne_iff_ne];exact h0
  have E:Hid (EH m ch=false):=by show _=_;unfold EH;rw [<-M.out,ER h0];rfl
  clear h0
  go_wp2_with fail
  go_ret;exact ⟨zf E.out.symm,a6⟩
 case pos=>
  subst h0;have HG:=zh (zI.of M.out.symm);have e5:=HG.out.dim.n1;have c7:=HG.out.dim.layer;have V:Hid (EH m ch=isChB m ch):=by show _=_;unfold EH;rw [<-M.out];rfl
  go_wp2_with fail
  refine (AA m.w m.h m.l vfr vup vts w2 (by omega) (by omega)).mono ?_;rintro e w3 ⟨rfl,b1⟩;have b6:zb w w3:=a6.trans b1;have a5:zb w1 w3:=zb.trans ‹zb w1 w2› b1;by_cases T:m.w*m.h*m.l<(ch.length:Int)
  ·have a9:decide (m.w*m.h*m.l<(ch.length:Int))=true:=EQ T
   have E:Hid (EH m ch=false):=by
    show _=_;rw [V.out,Bool.eq_false_iff];intro h;have h1:=(By.1 h).len HG.out;have h2:m.n=m.w*m.h*m.l:=rfl;omega
   go_wp2_with fail
   go_ret;exact ⟨zf E.out.symm,b6⟩
  ·have a9:decide (m.w*m.h*m.l<(ch.length:Int))=false:=ER T;have b8:ch.length<=300:=by omega
   go_wp2_with fail
   clear a9;go_loopw [5] (fun i wr=>∃k:Nat,k<=ch.length/\i=.int .i64 k/\Hid (zC m (ch.take k))/\Hid (zb w1 wr)) (fun i _=>ch.length - (intOf i).toNat)
   case atStart=>exact ⟨0,Fb _,rfl,by rw [List.take_zero];exact zC.nil,a5⟩
   case round=>
    obtain ⟨k,hk,rfl,hI,hX⟩:=hrel;obtain ⟨wk,rfl⟩:∃wk:World,wk=wr:=⟨_,rfl⟩;have s:zb w1 wk:=hX.out;by_cases J:k<ch.length
    ·obtain ⟨b,off,rfl,_,D⟩:=zy HR.out J J;have a1:=zh (intsTake b4.out (show k<=ch.length by omega));have L:=zh (EU J)
     have a4:Hid (ch[k]∉Bw m (ch.take k)->EH m ch=false):=fun hn=>by
      rw [V.out,Bool.eq_false_iff];intro h;exact hn ((By.1 h).at J)
     obtain ⟨x,b2⟩:=zak (ch[k]);rw [<-b2] at D L a4;clear b2;have rx:∀W,zb w1 W->W.cell? ⟨b,off+k,none⟩=some (.int .i64 x):=fun W hW=>zb.rule D W (z.trans hW)
     have e0:(k:Int)<=(c:Int):=by omega
     have d9:k<=c:=by omega
     have d7:(0:Int)<=(k:Int):=by omega
     have d8:(k:Int)<(ch.length:Int):=by omega
     clear D;have c8:=DO HL.out (ch.take k)
     go_wp2_with fail
     go_region_held3 (fun w'=>zb w1 w'/\zb wk w')
      (first | (exact ⟨s.drew,(zb.refl _).drew⟩) | (exact ⟨s.drew.trans O.ext,(zb.refl _).drew.trans O.ext⟩))
      (first | (go_at_call 124;refine (qbehind_calls _ (a3.out.below (z.trans s.drew)) HG.out HL.out (a1.out.below (z.trans s.drew)) hI.out).mono ?_;rintro e wn ⟨v9,rfl,O⟩) | (go_at_call 12;refine (zL x _ O.ints (by omega)).mono ?_;rintro e w10 ⟨rfl,rfl⟩))
     rename_i hS
     have U:zb w1 wn:=hS.1;clear O hS;by_cases I:x∈Bw m (ch.take k)
     ·rw [EQ I];have b7:Hid (zC m (ch.take (k+1))):=by show zC _ _;rw [L.out];exact zC.snoc hI.out I
      clear I
      go_wp2_with fail
      go_roundw
      case rel=>exact ⟨k+1,J,by go_num,b7,U⟩
      case measure=>simp [intOf];omega
     ·rw [ER I];have E:=zh (a4.out I);clear I;go_wp2;go_ret;exact ⟨zf E.out.symm,z.trans U⟩
    ·obtain rfl:k=ch.length:=by omega
     have E:Hid (EH m ch=true):=by
      show _=_;rw [V.out,By];have:=hI.out
      rwa [EY] at this
     go_wp2;go_ret;exact ⟨zf E.out.symm,z.trans s⟩
theorem qCandidates_calls {v:Value} (w:World) (hm:zt w ok v m) (hl:Lens m) (O:zi w okc vc ch) (U:ch.length<=20000000000000):
  Calls Tryz.prog 97 #[v,vc] w fun e w'=>∃v',e=.returned v'/\Mk w w' v' (AK m ch):=by
 have L:=zh hm;obtain ⟨vfr,vup,vts,rfl,-,-,-⟩:=hm;have J:=zh O;obtain ⟨A,c,rfl,a7,-⟩:=O;have V:=zh hl;clear hl;obtain ⟨bb,M⟩:=zak (EH m ch);have z:=zh M;clear M
 go_enter Tryz.func97,Tryz.ntmps97
 go_wp2_with fail
 generalize I:w.alloc (.cells #[.int .i64 m.w,.int .i64 m.h,.int .i64 m.l,vfr,vup,vts] 32)=w1;have s:zb w w1:=by rw [<-I];exact (zb.refl w).alloc _
 have T:zg w1 w.heap.size 32 #[.int .i64 m.w,.int .i64 m.h,.int .i64 m.l,vfr,vup,vts]:=by rw [<-I];exact FB _ _
 clear I;obtain ⟨m0,m1,m2,m3,m4,m5⟩:=zn T;have c0:=zb.rule m0;have c1:=zb.rule m1;have c2:=zb.rule m2;have c3:=zb.rule m3;have c4:=zb.rule m4;have c5:=zb.rule m5;clear m0 m1 m2 m3 m4 m5 T;refine (qchosen_calls w1 (L.out.below s) V.out (J.out.below s) U).mono ?_;rintro e w2 ⟨rfl,D⟩;rw [<-z.out];cases bb
 ·have E:Hid (AK m ch=[]):=by show _=_;unfold AK;rw [<-z.out];rfl
  go_wp2_with fail
  go_ret;exact ⟨_,rfl,by rw [E.out];exact Mk.nil' (s.trans D)⟩
 ·have E:Hid (AK m ch=Bw m ch):=by show _=_;unfold AK;rw [<-z.out];rfl
  obtain ⟨hg,hc⟩:=DT z.out.symm;have HG:=zh hg;have HC:=zh hc;clear hg hc
  go_wp2_with fail
  refine (qbehind_calls w2 (L.out.below (s.trans D)) HG.out V.out (J.out.below (s.trans D)) HC.out).mono ?_;rintro e w3 ⟨v3,rfl,Z⟩;have HM:=zh ((s.trans D).mono_mk Z);clear Z
  go_wp2_with fail
  go_ret;exact ⟨_,rfl,by rw [E.out];exact HM.out⟩
theorem reachL_le (m:MZ) (t:Nat) (f us:List Int) (g:zI m):(Cz m t f us).length<=20000000000000:=by
 unfold Cz;refine EP (Fr _ _) ?_;have h1:=g.dim.n1;have h2:m.n=m.w*m.h*m.l:=rfl;simp;omega
def zv (m:MZ) (ch:List Int):List (List Int):=if EH m ch=true then (zY m ch).filter (fun p=>decide (p.length≠0)) else []
theorem splitL_drop (h:zC m ch):∀qs p,AR m ch=qs++[p]->(∀q∈qs,q≠[])/\((zY m ch).filter fun p=>decide (p.length≠0))=(if p=[] then qs else qs++[p]):=by
 induction h with
 | nil=>
  intro qs p h;rw [splitL_nil] at h
  have h1:qs=[]/\p=[]:=by
   cases qs with
   | nil=>simp at h;exact ⟨rfl,h⟩
   | cons a l=>
    have:=congrArg List.length h;simp at this
  obtain ⟨rfl,rfl⟩:=h1;refine ⟨fun q hq=>(by cases hq),?_⟩;rw [psOf_nil];unfold ps0
  split <;> simp
 | @snoc ch n h M ih=>
  intro qs p J;have L:=CD M;obtain ⟨qs0,p0,h1,h2,h3⟩:=ps_form h L;obtain ⟨i1,i2⟩:=ih qs0 p0 h3;have s:=split_step n h1 h2;rw [J] at s
  have z:∀(ps:List (List Int)) (a:List Int),(∀q∈ps,q≠[])->(ps++[a]).filter (fun p=>decide (p.length≠0))=if a=[] then ps else ps++[a]:=fun ps a I=>by
   rw [FC,List.filter_eq_self.2 (fun q hq=>by have:=I q hq;simpa using this)];by_cases D:a=[]
   ·rw [if_pos D];subst D;simp
   ·rw [if_neg D];congr 1;simp [D]
  have key:∀q∈qs,q≠[]:=by
   intro q hq
   split at s
   ·have E:qs=qs0++[p0++[n]]:=(List.append_inj' s rfl).1;rw [E] at hq;rcases FE.1 hq with hq | hq
    ·exact i1 q hq
    ·rw [Fv] at hq;subst hq;simp
   ·rw [List.append_nil] at s;have E:qs=qs0:=(List.append_inj' s rfl).1;rw [E] at hq;exact i1 q hq
  refine ⟨key,?_⟩;rw [<-z qs p key,<-J];unfold AR;rw [FC]
  split <;> simp
theorem pathsO_eq (h:EH m ch=true) {qs:List (List Int)} {p:List Int} (s:AR m ch=qs++[p]):zv m ch=if p=[] then qs else qs++[p]:=by
 unfold zv;rw [if_pos h];exact (splitL_drop (DT h).2 qs p s).2
theorem splitL_last (h:zC m ch):∃qs p,AR m ch=qs++[p]:=by
 have z:=splitL_len h
 have s:0<(AR m ch).length:=by
  cases h:AZ m ch
  ·exact (z.2 h).2
  ·have:=z.1 h;omega
 rcases List.eq_nil_or_concat (AR m ch) with h1 | ⟨qs,p,h1⟩
 ·rw [h1] at s;simp at s
 ·exact ⟨qs,p,by rw [h1,List.concat_eq_append]⟩
def PathsPost (w:World) (m:MZ) (ch:List Int) (e:Ending) (w':World):Prop:=
 ∃v,e=.returned (.tuple #[v,.bool (EH m ch)])/\zb w w'/\zq w' (fun b=>w.heap.size<=b) v (zv m ch)
theorem intss_take {w:World} {l:List (List Int)} (h:zq w ok (.slice A n c) l) (L:N<=n):zq w ok (.slice A N c) (l.take N):=by
 obtain ⟨vs,⟨A',c',e,M,O,E⟩,he⟩:=h;injection e with e1 e2 e3;subst e1 e2 e3;refine ⟨vs.take N,⟨A,c,by rw [FH,Nat.min_eq_left (by omega)],by rw [FH];omega,by rw [FH,FH];omega,fun hp=>?_⟩,fun i x D=>?_⟩
 ·rw [FH] at hp;obtain ⟨b,off,e,I,s⟩:=E (by omega);refine ⟨b,off,e,I,fun j u z=>s j u ?_⟩;rw [List.getElem?_take] at z
  split at z
  ·exact z
  ·cases z
 ·rw [List.getElem?_take] at D
  split at D
  ·rename_i J
   obtain ⟨u,z,E⟩:=he i x D;exact ⟨u,by rw [List.getElem?_take,if_pos J];exact z,E⟩
  ·cases D
theorem Ek {v:Value} (w:World) (hm:zt w ok v m) (hl:Lens m) (a4:zi w okc vc ch) (b8:ch.length<=20000000000000):
  Calls Tryz.prog 94 #[v,vc] w (PathsPost w m ch):=by
 have a0:=zh hm;obtain ⟨vfr,vup,vts,rfl,-,-,-⟩:=hm;have V:=zh a4;obtain ⟨A,c,rfl,d8,-⟩:=a4;have HL:=zh hl;clear hl;obtain ⟨bb,a3⟩:=zak (EH m ch);have z:=zh a3;clear a3
 go_enter Tryz.func94,Tryz.ntmps94
 go_wp2_with fail
 generalize U:w.alloc (.cells #[.int .i64 m.w,.int .i64 m.h,.int .i64 m.l,vfr,vup,vts] 32)=w1;have D:zb w w1:=by rw [<-U];exact (zb.refl w).alloc _
 have a7:zg w1 w.heap.size 32 #[.int .i64 m.w,.int .i64 m.h,.int .i64 m.l,vfr,vup,vts]:=by rw [<-U];exact FB _ _
 clear U;obtain ⟨m0,m1,m2,m3,m4,m5⟩:=zn a7;have c0:=zb.rule m0;have c1:=zb.rule m1;have c2:=zb.rule m2;have c3:=zb.rule m3;have c4:=zb.rule m4;have c5:=zb.rule m5;clear m0 m1 m2 m3 m4 m5 a7;refine (qchosen_calls w1 (a0.out.below D) HL.out (V.out.below D) b8).mono ?_;rintro e w2 ⟨rfl,I⟩;rw [<-z.out];cases bb
 ·have s:Hid (PathsPost w m ch (.returned (.tuple #[.slice none 0 0,.bool false])) w2):=⟨_,by rw [<-z.out],D.trans I,by unfold zv;rw [<-z.out];exact ⟨[],⟨none,0,rfl,EN _,zN.nil _ _ _ _⟩,fun i x hx=>by simp at hx⟩⟩
  go_wp2_with fail
  go_ret2
  exact s.out
 ·obtain ⟨hg,hc⟩:=DT z.out.symm;obtain ⟨qs,p,O⟩:=splitL_last hc;have a1:=zh (pathsO_eq z.out.symm O);have T:=splitL_len hc
  have b9:(AR m ch).length<=7:=by
   have e3:=hg.tk
   cases h:AZ m ch
   ·have:=(T.2 h).1;omega
   ·have:=T.1 h;omega
  have HG:=zh hg;have HC:=zh hc;have E:=zh O;clear hg hc O T
  go_wp2_with fail
  refine (qsplit_calls w2 (a0.out.below (D.trans I)) HG.out HL.out (V.out.below (D.trans I)) HC.out).mono ?_;rintro e w3 ⟨v3,rfl,b2,a9⟩;have b4:=zh a9;obtain ⟨vs,⟨Ap,cp,rfl,b5,b0⟩,a6⟩:=a9;obtain ⟨bp,ofp,up,rfl,_,a5,b1⟩:=zO b0 a6 (k:=qs.length) (by rw [E.out];simp) (by rw [E.out];simp);have a8:(AR m ch)[qs.length]'(by rw [E.out];simp)=p:=by simp only [E.out];simp
  rw [a8] at b1;obtain ⟨Aq,cq,rfl,b6,-⟩:=b1;have ru:=zb.rule a5;have M:(AR m ch).length=qs.length+1:=by rw [E.out];simp
  rw [M] at b5 b9⊢;have e0:(qs.length:Int)<(qs.length:Int)+1:=by omega
  have d5:zb w3 w3:=zb.refl w3;have Z:Hid (zb w w3):=D.trans (I.trans b2);have c8:=I.size;have c7:=D.size
  have L:Hid (zq w3 (fun b=>w.heap.size<=b) (.slice (some ⟨bp,ofp,none⟩) (qs.length+1) cp) (qs++[p])):=by
   have h1:=b4.out;rw [M] at h1;rw [E.out] at h1;exact h1.weaken fun b hb=>by omega
  clear b0 a6 a8 a5 M b2 I c7 c8;by_cases J:p=[]
  ·subst J;have hz:([]:List Int).length=0:=rfl;rw [hz] at ru b6
   have s:Hid (PathsPost w m ch (.returned (.tuple #[.slice (some ⟨bp,ofp,none⟩) qs.length cp,.bool true])) w3):=⟨_,by rw [<-z.out],Z.out,by
    rw [a1.out,if_pos rfl];have h1:=intss_take L.out (N:=qs.length) (by omega)
    rwa [List.take_append_of_le_length (EN _),EY] at h1⟩
   have c6:(qs.length:Int)<=(cp:Int):=by omega
   go_wp2_with fail
   go_ret2
   exact s.out
  ·have s:Hid (PathsPost w m ch (.returned (.tuple #[.slice (some ⟨bp,ofp,none⟩) (qs.length+1) cp,.bool true])) w3):=⟨_,by rw [<-z.out],Z.out,by
    rw [a1.out,if_neg J];exact L.out⟩
   have d9:p.length≠0:=fun h=>J (Fe h)
   have c6:((p.length:Int)==0)=false:=by rw [Fa];omega
   clear J
   go_wp2_with fail
   go_ret2
   exact s.out
end
section
open Go.RowKit
inductive PT where
 | node (task:Int) (side:List Int) (kids:List PT)
def PT.task:PT->Int | .node t _ _=>t
def PT.side:PT->List Int | .node _ s _=>s
def PT.kids:PT->List PT | .node _ _ k=>k
def PT.zero:PT:=.node 0 [] []
def Cg (ps:List (List Int)) (p:List Int) (k:Nat):Bool:=(ps.getD k []).any fun n=>decide (n∈p)
def CM (ps:List (List Int)) (p:List Int):List Int:=((List.range ps.length).filter (Cg ps p)).map Int.ofNat
def ownM (m:MZ) (k:Nat):MZ:=⟨m.w,m.h,m.l,[m.free.getD k []],m.up,[m.tasks.getD k ([],[])]⟩
def CF (m:MZ) (ps:List (List Int)) (k:Nat):Bool:=decide (ps.getD k []=[]) || zJ (ownM m k) [ps.getD k []]
def AV (m:MZ) (ps:List (List Int)):Bool:=decide (AY m=0) && (decide (ps.length=m.tasks.length) && ((List.range ps.length).all (CF m ps) && decide ps.flatten.Nodup))
def Bx (ps:List (List Int)) (t k:Nat):Bool:=decide (k=t) || decide (ps.getD k []≠[])
def Dj (ps:List (List Int)) (t:Nat):List Nat:=(List.range ps.length).filter (Bx ps t)
def CK (m:MZ) (ps:List (List Int)) (t:Nat):MZ:=⟨m.w,m.h,m.l,(Dj ps t).map (m.free.getD · []),m.up,(Dj ps t).map (m.tasks.getD · ([],[]))⟩
def CU:MZ:=⟨0,0,0,[],[],[]⟩
def subO (m:MZ) (ps:List (List Int)) (t:Int):MZ:=if (AV m ps && AM m t)=true then CK m ps t.toNat else CU
def zF:Nat->List Int->List (List Int)
 | 0,_=>[[]]
 | _+1,[]=>[]
 | k+1,x :: l=>(zF k l).map (x :: ·)++zF (k+1) l
def AX (l:List Int):List (List Int):=(List.range (l.length+1)).flatMap fun k=>zF k l
def Ci (ps:List (List Int)):List Int:=((List.range ps.length).filter fun k=>decide (ps.getD k []≠[])).map Int.ofNat
def Cu (ps:List (List Int)) (set:List Int):List (List Int):=set.foldl (fun o k=>o.set k.toNat []) ps
def pushL (m:MZ):List Int->List (List Int)->Option (List (List Int))
 | [],o=>some o
 | k :: l,o=>match Br m k o with
  | none=>none
  | some p=>pushL m l (o.set k.toNat p)
def DD (m:MZ) (ps:List (List Int)) (t:Int) (set:List Int):Option (List (List Int)):=pushL m (t :: set) (Cu ps set)
def endB (m:MZ) (pp:List (List Int)) (t:Nat):Bool:=match (pp.getD t []).getLast? with
 | none=>false
 | some x=>decide (x∈(m.tasks.getD t ([],[])).2)
def curF (m:MZ) (pp:List (List Int)):Nat->Nat->Nat
 | 0,t=>t
 | f+1,t=>if t<pp.length/\endB m pp t=true then curF m pp f (t+1) else t
def AD (m:MZ) (ch:List Int):Nat:=curF m (zv m ch) (zv m ch).length 0
def BP (m:MZ) (ch:List Int) (t:Nat):List Int:=if t<(zv m ch).length then ((zv m ch).getD t []).getLast?.toList else (m.tasks.getD t ([],[])).1.filter fun n=>zl m t n && !decide (n∈ch)
noncomputable def Dl (m:MZ) (ch:List Int) (t:Nat):List Int:=reachO m t (BP m ch t) ch
noncomputable def offB (m:MZ) (ch:List Int) (t:Nat):Bool:=!((Dl m ch t).any fun n=>decide (n∈(m.tasks.getD t ([],[])).2)) && (decide (Dl m ch t≠[]) || decide (AD m ch<t))
noncomputable def cutT (m:MZ) (ch:List Int):Option Nat:=((List.range (m.tasks.length - AD m ch)).map (AD m ch+·)).find? (offB m ch)
def AJ (f:Int->Nat->Int×PT×Nat):List Int->Nat->List PT->Int×List PT×Nat
 | [],k,acc=>(0,acc,k)
 | n :: l,k,acc=>if (f n k).1=0 then AJ f l (f n k).2.2 (acc++[(f n k).2.1]) else ((f n k).1,[],(f n k).2.2)
noncomputable def zG (m:MZ):Nat->List Int->Nat->Int×PT×Nat
 | 0,_,k=>(53,.zero,k)
 | f+1,ch,k=>
  if m.tasks.length<=AD m ch then (51,.zero,k)
  else if 3000<k+1 then (53,.zero,k+1)
  else match cutT m ch with
   | some t=>(0,.node t (Dl m ch t) [],k+1)
   | none=>
    let r:=AJ (fun n k=>zG m f (ch++[n]) k) (AK m ch) (k+1) []
    if r.1=0 then (0,.node (AD m ch) [] r.2.1,r.2.2) else (r.1,.zero,r.2.2)
noncomputable def makeP (m:MZ):Int×PT:=if AY m=0 then ((zG m (m.n.toNat+2) [] 0).1,(zG m (m.n.toNat+2) [] 0).2.1) else (AY m,.zero)
mutual
def PT.size:PT->Nat
 | .node _ _ ks=>1+PT.sizeL ks
def PT.sizeL:List PT->Nat
 | []=>0
 | k :: ks=>k.size+PT.sizeL ks
end
def incB (N:Int):Int->List Int->Bool
 | _,[]=>true
 | b,x :: l=>decide (b<x) && (decide (x<N) && incB N x l)
def wallB (m:MZ) (ch:List Int) (t:Nat) (s:List Int):Bool:=s.all fun n=>(BC m n).all fun k=>!(zl m t k && !decide (k∈ch)) || decide (k∈s)
def cutB (m:MZ) (ch:List Int) (t:Int) (s:List Int) (nk:Nat):Bool:=
 if t<AD m ch\/(m.tasks.length:Int)<=t\/(t=AD m ch/\s=[])\/nk≠0 then false
 else incB m.n (-1) s && (!(s.any fun n=>decide (n∈(m.tasks.getD t.toNat ([],[])).2)) && ((BP m ch t.toNat).all (fun n=>decide (n∈s)) && wallB m ch t.toNat s))
mutual
def Cp (m:MZ):PT->List Int->Bool
 | .node t s ks,ch=>if m.tasks.length<=AD m ch then false else if t≠AD m ch\/s≠[] then cutB m ch t s ks.length else Ch m ks ch (AK m ch)
def Ch (m:MZ):List PT->List Int->List Int->Bool
 | [],_,[]=>true
 | k :: ks,ch,n :: l=>Cp m k (ch++[n]) && Ch m ks ch l
 | [],_,_ :: _=>false
 | _ :: _,_,[]=>false
end
def checkP (m:MZ) (p:PT):Bool:=decide (AY m=0) && (decide (0<m.tasks.length) && (decide (p.size<=3000) && Cp m p []))
structure AddR where
 ps:List (List Int)
 mv:List Int
 why:PT
 err:Int
def mvP (ps:List (List Int)) (t k:Nat) (f:List Int) (mv:List Int):List Int:=if k≠t/\ps.getD k []≠f then mv++[(k:Int)] else mv
def Di (ps:List (List Int)) (t:Nat):List Nat->List (List Int)->List (List Int)->List Int->List (List Int)×List Int
 | [],_,o,mv=>(o,mv)
 | k :: l,fd,o,mv=>if Bx ps t k=true then Di ps t l fd.tail (o.set k (fd.headD [])) (mvP ps t k (fd.headD []) mv) else Di ps t l fd o mv
noncomputable def endS (m:MZ) (ps:List (List Int)) (t:Nat):RS:=RS.run (CK m ps t) 20000 ⟨[],AZ (CK m ps t) [],0⟩
noncomputable def Bc (m:MZ) (ps:List (List Int)) (t:Nat):AddR:=
 if (endS m ps t).done=false then ⟨[],[],.zero,53⟩
 else if AZ (CK m ps t) (endS m ps t).ch=true then ⟨(Di ps t (List.range ps.length) (zY (CK m ps t) (endS m ps t).ch) ps []).1,(Di ps t (List.range ps.length) (zY (CK m ps t) (endS m ps t).ch) ps []).2,.zero,0⟩
 else if (makeP (CK m ps t)).1=0 then ⟨[],[],(makeP (CK m ps t)).2,54⟩ else ⟨[],[],.zero,(makeP (CK m ps t)).1⟩
noncomputable def addP (m:MZ) (ps:List (List Int)) (t:Int):AddR:=
 if (AV m ps && (AM m t && decide (ps.getD t.toNat []=[])))=true then
  match (AX (Ci ps)).findSome? fun s=>(DD m ps t s).map fun o=>(o,s) with
  | some r=>⟨r.1,r.2,.zero,0⟩
  | none=>Bc m ps t.toNat
 else ⟨[],[],.zero,1⟩
def reachLX (m:MZ) (t:Nat) (f us:List Int):List Int:=((List.range m.n.toNat).map Int.ofNat).filter fun x=>decide (x∈reachX m t f us)
def sideX (m:MZ) (ch:List Int) (t:Nat):List Int:=if AY m=0/\t<m.tasks.length then reachLX m t (BP m ch t) ch else []
theorem side_x (d:EF m) (ch:List Int) (t:Nat):Dl m ch t=sideX m ch t:=by
 unfold Dl sideX reachO reachLX;by_cases h:AY m=0/\t<m.tasks.length
 ·rw [if_pos h,if_pos ⟨h.1,by omega,by have:=h.2;omega⟩,reachL_x d]
  all_goals rfl
 ·rw [if_neg h,if_neg (fun s=>h ⟨s.1,by have:=s.2.2;omega⟩)]
def offX (m:MZ) (ch:List Int) (t:Nat):Bool:=!((sideX m ch t).any fun n=>decide (n∈(m.tasks.getD t ([],[])).2)) && (decide (sideX m ch t≠[]) || decide (AD m ch<t))
def cutX (m:MZ) (ch:List Int):Option Nat:=((List.range (m.tasks.length - AD m ch)).map (AD m ch+·)).find? (offX m ch)
theorem cut_x (d:EF m) (ch:List Int):cutT m ch=cutX m ch:=by
 unfold cutT cutX;congr 1;funext t;unfold offB offX;rw [side_x d]
def proveX (m:MZ):Nat->List Int->Nat->Int×PT×Nat
 | 0,_,k=>(53,.zero,k)
 | f+1,ch,k=>
  if m.tasks.length<=AD m ch then (51,.zero,k)
  else if 3000<k+1 then (53,.zero,k+1)
  else match cutX m ch with
   | some t=>(0,.node t (sideX m ch t) [],k+1)
   | none=>
    let r:=AJ (fun n k=>proveX m f (ch++[n]) k) (AK m ch) (k+1) []
    if r.1=0 then (0,.node (AD m ch) [] r.2.1,r.2.2) else (r.1,.zero,r.2.2)
theorem prove_x {m:MZ} (d:EF m):∀(f:Nat) (ch:List Int) (k:Nat),zG m f ch k=proveX m f ch k
 | 0,ch,k=>rfl
 | f+1,ch,k=>by
  unfold zG proveX;rw [cut_x d]
  have h:(fun n k=>zG m f (ch++[n]) k)=fun n k=>proveX m f (ch++[n]) k:=by
   funext n k;exact prove_x d f _ _
  rw [h];by_cases h1:m.tasks.length<=AD m ch
  ·rw [if_pos h1,if_pos h1]
  ·rw [if_neg h1,if_neg h1];by_cases h2:3000<k+1
   ·rw [if_pos h2,if_pos h2]
   ·rw [if_neg h2,if_neg h2]
    cases cutX m ch with
    | some t=>show (0,PT.node _ (Dl m ch t) _,_)=(0,PT.node _ (sideX m ch t) _,_);rw [side_x d]
    | none=>rfl
def makeX (m:MZ):Int×PT:=if AY m=0 then ((proveX m (m.n.toNat+2) [] 0).1,(proveX m (m.n.toNat+2) [] 0).2.1) else (AY m,.zero)
theorem make_x (d:EF m):makeP m=makeX m:=by
 unfold makeP makeX;rw [prove_x d]
theorem subM_dim (d:EF m) (ps:List (List Int)) (t:Nat):EF (CK m ps t):=⟨d.w1,d.w2,d.h1,d.h2,d.l1,d.l2,d.n1,d.up⟩
def endX (m:MZ) (ps:List (List Int)) (t:Nat):RS:=RS.runX (CK m ps t) 20000 ⟨[],AZ (CK m ps t) [],0⟩
theorem end_x (d:EF m) (ps:List (List Int)) (t:Nat):endS m ps t=endX m ps t:=run_x (subM_dim d ps t) _ _
def searchX (m:MZ) (ps:List (List Int)) (t:Nat):AddR:=
 if (endX m ps t).done=false then ⟨[],[],.zero,53⟩
 else if AZ (CK m ps t) (endX m ps t).ch=true then ⟨(Di ps t (List.range ps.length) (zY (CK m ps t) (endX m ps t).ch) ps []).1,(Di ps t (List.range ps.length) (zY (CK m ps t) (endX m ps t).ch) ps []).2,.zero,0⟩
 else if (makeX (CK m ps t)).1=0 then ⟨[],[],(makeX (CK m ps t)).2,54⟩ else ⟨[],[],.zero,(makeX (CK m ps t)).1⟩
theorem search_x (d:EF m) (ps:List (List Int)) (t:Nat):Bc m ps t=searchX m ps t:=by
 unfold Bc searchX;rw [end_x d,make_x (subM_dim d ps t)]
def addX (m:MZ) (ps:List (List Int)) (t:Int):AddR:=
 if (AV m ps && (AM m t && decide (ps.getD t.toNat []=[])))=true then
  match (AX (Ci ps)).findSome? fun s=>(DD m ps t s).map fun o=>(o,s) with
  | some r=>⟨r.1,r.2,.zero,0⟩
  | none=>searchX m ps t.toNat
 else ⟨[],[],.zero,1⟩
theorem add_x (d:EF m) (ps:List (List Int)) (t:Int):addP m ps t=addX m ps t:=by
 unfold addP addX;rw [search_x d]
 all_goals rfl
theorem dist_le {m:MZ} {fr:Int->Bool} {tg tg':List Int} {k:Nat} {F G:List (Int×Int)} (hF:DY m fr tg k F) (hG:DY m fr tg' G.length G) (M:∀x∈tg,x∈tg'):
  ∀(d:Nat) (x:Int),F.lookup x=some (d:Int)->∃e,G.lookup x=some e/\e<=(d:Int)
 | d,x,h=>by
  have h1:=AE h;obtain ⟨-,s,-⟩:=hF.rg _ h1;rcases hF.bk _ h1 with ⟨h2,h3⟩ | ⟨q,L,h2,h3⟩
  ·exact ⟨0,Db hG.nd (hG.ini x (M x h3) s),by omega⟩
  ·simp only at h2 h3;obtain ⟨-,-,V⟩:=hF.rg q L;obtain ⟨d',z⟩:∃d':Nat,d=d'+1:=⟨d - 1,by omega⟩;subst z;have E:q.2=(d':Int):=by omega
   have O:F.lookup q.1=some (d':Int):=Db hF.nd (by rw [<-E];exact L);obtain ⟨e,T,Z⟩:=dist_le hF hG M d' q.1 O;obtain ⟨i,J,ei⟩:=Fu (AE T);obtain ⟨q',D,U,I⟩:=hG.cl i J _ (EL J) x (by rw [ei];exact h2) s;rw [ei] at I;refine ⟨q'.2,Db hG.nd (by rw [<-U];exact D),?_⟩;simp only at I;omega
theorem dist_nat (hF:DY m fr tg k F) {x:Int} (h:F.lookup x=some d):∃n:Nat,d=n:=by
 obtain ⟨-,-,h0⟩:=hF.rg _ (AE h);exact ⟨d.toNat,by simp only at h0;omega⟩
theorem dist_uniq {tg':List Int} (hF:DY m fr tg F.length F) (hG:DY m fr tg' G.length G) (z:∀x,x∈tg↔x∈tg') (x:Int):F.lookup x=G.lookup x:=by
 cases s:F.lookup x with
 | none=>
  cases D:G.lookup x with
  | none=>rfl
  | some e=>
   obtain ⟨n,rfl⟩:=dist_nat hG D;obtain ⟨e,h1,-⟩:=dist_le hG hF (fun x h=>(z x).2 h) n x D;rw [s] at h1;cases h1
 | some d=>
  obtain ⟨n,rfl⟩:=dist_nat hF s;obtain ⟨e,h1,h2⟩:=dist_le hF hG (fun x h=>(z x).1 h) n x s;obtain ⟨k,rfl⟩:=dist_nat hG h1;obtain ⟨e',h3,E⟩:=dist_le hG hF (fun x h=>(z x).2 h) k x h1;rw [s] at h3;injection h3 with h3;rw [h1];congr 1;omega
def toL (m:MZ) (t:Nat):List Int:=((List.range m.n.toNat).map Int.ofNat).filter fun x=>decide (x∈(m.tasks.getD t ([],[])).2)
def farQ (m:MZ) (t:Nat) (fixed:List (List Int)):List (Int×Int):=bfs m (DJ m t fixed) (m.n.toNat+1) 0 (zw (DJ m t fixed) 0 (toL m t) [])
theorem mem_toL (g:zI m) (s:t<m.tasks.length) (x:Int):x∈toL m t↔x∈(m.tasks.getD t ([],[])).2:=by
 unfold toL;rw [zab,EX];refine ⟨fun h=>h.2,fun h=>⟨?_,h⟩⟩;have h2:=h;rw [EM,EL s,Ft] at h2;obtain ⟨h3,z⟩:=g.tn _ (EO s) x (.inr h2);exact zac.2 ⟨x.toNat,zad.2 (by omega),by show ((x.toNat:Nat):Int)=x;omega⟩
theorem farQ_fi (g:zI m) (z:t<m.tasks.length):DY m (DJ m t fixed) (toL m t) (farQ m t fixed).length (farQ m t fixed):=by
 have h0:DY m (DJ m t fixed) (toL m t) 0 (zw (DJ m t fixed) 0 (toL m t) []):=DY.start fun x s=>by
  have s:=(mem_toL g z x).1 s;rw [EM,EL z,Ft] at s;exact g.tn _ (EO z) x (.inr s)
 obtain ⟨j,D,e⟩:=bfs_fi g.dim (m.n.toNat+1) 0 _ h0 (Fb _) (by omega);have:j=(farQ m t fixed).length:=e;rw [<-this];exact D
theorem farQ_eq (g:zI m) (s:t<m.tasks.length) (x:Int):(farQ m t fixed).lookup x=(farP m t fixed).lookup x:=dist_uniq (farQ_fi g s) (farP_fi g s) (mem_toL g s) x
def Cb (F:List (Int×Int)) (fm:List Int) (k:Nat) (b:Option Int):Prop:=match b with
 | none=>∀n∈fm,0<=n->n<k->F.lookup n=none
 | some r=>r∈fm/\0<=r/\r<k/\∃d,F.lookup r=some d/\∀n∈fm,0<=n->n<k->∀e,F.lookup n=some e->d<e\/(d=e/\r<=n)
theorem Cb.zero (F:List (Int×Int)) (fm:List Int):Cb F fm 0 none:=fun n _ h0 h1=>by omega
theorem Cb.skip (h:Cb F fm k b) (hs:(k:Int)∉fm\/F.lookup (k:Int)=none):Cb F fm (k+1) b:=by
 cases b with
 | none=>
  intro n s h0 h1;by_cases z:n=(k:Int)
  ·subst z;exact hs.resolve_left fun h=>h s
  ·exact h n s h0 (by omega)
 | some r=>
  obtain ⟨h1,h2,h3,d,D,E⟩:=h;refine ⟨h1,h2,by omega,d,D,fun n s h0 I e he=>?_⟩;by_cases z:n=(k:Int)
  ·subst z;rcases hs with hs | hs
   ·exact absurd s hs
   ·rw [hs] at he;cases he
  ·exact E n s h0 (by omega) e he
theorem Cb.old {r:Int} (h:Cb F fm k (some r)) (D:F.lookup r=some d) (I:F.lookup (k:Int)=some e) (J:d<=e):Cb F fm (k+1) (some r):=by
 obtain ⟨h1,h2,h3,d',s,E⟩:=h;rw [D] at s;injection s with s;subst s;refine ⟨h1,h2,by omega,d,D,fun n L h0 M e' he=>?_⟩;by_cases z:n=(k:Int)
 ·subst z;rw [I] at he;injection he with he;omega
 ·exact E n L h0 (by omega) e' he
theorem Cb.new (h:Cb F fm k b) (hm:(k:Int)∈fm) (D:F.lookup (k:Int)=some e) (s:∀r d,b=some r->F.lookup r=some d->e<d):Cb F fm (k+1) (some (k:Int)):=by
 refine ⟨hm,by omega,by omega,e,D,fun n E h0 L e' he=>?_⟩;by_cases z:n=(k:Int)
 ·subst z;rw [D] at he;injection he with he;omega
 ·cases b with
  | none=>rw [h n E h0 (by omega)] at he;cases he
  | some r=>
   obtain ⟨h1,h2,h3,d,I,J⟩:=h;have:=s r d rfl I;have:=J n E h0 (by omega) e' he;omega
theorem Cb.all (h:Cb F fm k b) (J:∀n∈fm,0<=n/\n<k):BN F fm none=b:=by
 cases E:BN F fm none with
 | none=>
  obtain ⟨-,h2⟩:=bestL_none E
  cases b with
  | none=>rfl
  | some r=>
   obtain ⟨h1,-,-,d,z,-⟩:=h;rw [h2 r h1] at z;cases z
 | some s=>
  obtain ⟨d,h1,h2,-,h3⟩:=CW (b:=none) (fun c I=>by cases I) E;have h2:=h2.resolve_left (by simp);obtain ⟨z,D⟩:=J s h2
  cases b with
  | none=>rw [h s h2 z D] at h1;cases h1
  | some r=>
   obtain ⟨a1,a2,a3,e,a4,a5⟩:=h;have b1:=a5 s h2 z D d h1;have b2:=h3 r e a1 a4;congr 1;omega
theorem downN_congr (h:∀x,F.lookup x=G.lookup x) (b:Int):Dg m F b=Dg m G b:=by
 unfold Dg;simp only [h]
theorem down_congr {m:MZ} {F G:List (Int×Int)} (h:∀x,F.lookup x=G.lookup x):∀(f:Nat) (b:Int),CH m F f b=CH m G f b
 | 0,b=>rfl
 | f+1,b=>by
  unfold CH;rw [downN_congr h,down_congr h f]
theorem bestL_congr {F G:List (Int×Int)} (h:∀x,F.lookup x=G.lookup x):∀(l:List Int) (b:Option Int),BN F l b=BN G l b
 | [],b=>rfl
 | n :: l,b=>by
  unfold BN;simp only [h];exact bestL_congr h l _
theorem descP_congr (h:∀x,F.lookup x=G.lookup x) (fm:List Int):CV m F fm=CV m G fm:=by
 unfold CV;rw [bestL_congr h];congr 1;funext b;rw [h,down_congr h]
theorem pathP_far (s:AY m=0) (z:t<m.tasks.length):Br m t fixed=CV m (farQ m t fixed) (m.tasks.getD t ([],[])).1:=by
 unfold Br;rw [if_pos (Be.2 ⟨s,by omega,by omega⟩),FF];exact descP_congr (fun x=>(farQ_eq (zI.of s) z x).symm) _
end
section
open Go.RowKit
attribute [local go_sem ↓] Go.wp_at_zero Go.wp_at_succ
theorem CG (w:World) (a0 a1 a2 a3 a4 a5:Value):zb w (w.alloc (.cells #[a0,a1,a2,a3,a4,a5] 32))/\
  (∀W,zb (w.alloc (.cells #[a0,a1,a2,a3,a4,a5] 32)) W->W.cell? ⟨w.heap.size,0,none⟩=some a0)/\(∀W,zb (w.alloc (.cells #[a0,a1,a2,a3,a4,a5] 32)) W->W.cell? ⟨w.heap.size,1,none⟩=some a1)/\
  (∀W,zb (w.alloc (.cells #[a0,a1,a2,a3,a4,a5] 32)) W->W.cell? ⟨w.heap.size,2,none⟩=some a2)/\(∀W,zb (w.alloc (.cells #[a0,a1,a2,a3,a4,a5] 32)) W->W.cell? ⟨w.heap.size,3,none⟩=some a3)/\
  (∀W,zb (w.alloc (.cells #[a0,a1,a2,a3,a4,a5] 32)) W->W.cell? ⟨w.heap.size,4,none⟩=some a4)/\(∀W,zb (w.alloc (.cells #[a0,a1,a2,a3,a4,a5] 32)) W->W.cell? ⟨w.heap.size,5,none⟩=some a5):=by
 have s:=zg.new w #[a0,a1,a2,a3,a4,a5] 32 rfl;exact ⟨(zb.refl w).alloc _,zb.rule (s.cell (k:=0) rfl),zb.rule (s.cell (k:=1) rfl),zb.rule (s.cell (k:=2) rfl),zb.rule (s.cell (k:=3) rfl),zb.rule (s.cell (k:=4) rfl),zb.rule (s.cell (k:=5) rfl)⟩
theorem box1 (w:World) (a:Value) (t:TypeId):zb w (w.alloc (.cells #[a] t))/\∀W,zb (w.alloc (.cells #[a] t)) W->W.cell? ⟨w.heap.size,0,none⟩=some a:=
 ⟨(zb.refl w).alloc _,zb.rule ((zg.new w #[a] t rfl).cell (k:=0) rfl)⟩
theorem zt.parts {w:World} {v:Value} (h:zt w ok v m):∃Af cf Au cu At ct,v=.agg #[.int .i64 m.w,.int .i64 m.h,.int .i64 m.l,.slice Af m.free.length cf,.slice Au m.up.length cu,.slice At m.tasks.length ct]/\
  Bn w ok (.slice Af m.free.length cf) m.free/\An w ok (.slice Au m.up.length cu) m.up/\BX w ok (.slice At m.tasks.length ct) m.tasks:=by
 obtain ⟨vfr,vup,vts,rfl,E,J,I⟩:=h;have s:=E;have D:=J;have z:=I;obtain ⟨_,⟨Af,cf,rfl,-⟩,-⟩:=s;obtain ⟨Au,cu,rfl,-⟩:=D;obtain ⟨_,⟨At,ct,rfl,-⟩,-⟩:=z;exact ⟨Af,cf,Au,cu,At,ct,rfl,E,J,I⟩
theorem Ew {v:Value} (t:Int) (w:World) (hm:zt w ok v m) (M:Lens m):
  Calls Tryz.prog 37 #[v,.int .i64 t] w fun e w'=>e=.returned (.bool (AM m t))/\zb w w':=by
 have J:=zh hm;have U:=zh M;obtain ⟨Af,cf,Au,cu,At,ct,rfl,-,-,-⟩:=hm.parts;have l3:=M.ts;clear hm M
 go_enter Tryz.func37,Tryz.ntmps37
 go_wp2_with fail
 obtain ⟨E,r0,r1,r2,r3,r4,r5⟩:=CG w (.int .i64 m.w) (.int .i64 m.h) (.int .i64 m.l) (.slice Af m.free.length cf) (.slice Au m.up.length cu) (.slice At m.tasks.length ct);generalize w.alloc _=w1 at E r0 r1 r2 r3 r4 r5⊢;have Z:zb w1 w1:=zb.refl w1
 go_wp2_with fail
 refine (BO w1 (J.out.below E) U.out).mono ?_;rintro e wA ⟨rfl,L⟩;have O:zb w1 wA:=L;clear Z;have T:∀b,AM m t=b->(Ending.returned (Value.bool b)=.returned (.bool (AM m t))/\zb w wA):=fun b s=>⟨by rw [s],E.trans O⟩
 have I:=zh T;clear T;by_cases D:AY m=0
 case neg=>
  have V:(AY m==0)=false:=by simpa using D
  have s:AM m t=false:=by unfold AM;rw [ER D];rfl
  have z:=zh s;clear s D;go_wp2;go_ret;exact I.out _ z.out
 have V:(AY m==0)=true:=by simpa using D
 by_cases h0:0<=t
 case neg=>
  have s:AM m t=false:=by unfold AM;rw [ER h0];simp
  have z:=zh s;clear s D;go_wp2;go_ret;exact I.out _ z.out
 by_cases h1:t<(m.tasks.length:Int)
 case neg=>
  have s:AM m t=false:=by unfold AM;rw [ER h1];simp
  have z:=zh s;clear s D;go_wp2;go_ret;exact I.out _ (by first | exact z.out | exact z.out.trans (ER (by omega)).symm | exact z.out.trans (EQ (by omega)).symm)
 have s:AM m t=true:=by unfold AM;rw [EQ h1,EQ h0,EQ D];rfl
 have z:=zh s;clear s D;go_wp2;go_ret;exact I.out _ (by first | exact z.out | exact z.out.trans (ER (by omega)).symm | exact z.out.trans (EQ (by omega)).symm)
end
section
open Go.RowKit
open Go.ChangeMaps (setBlock)
def entI:List (Int×Int)->Nat->List MapEntry
 | [],_=>[]
 | p :: l,b=>{ key:=.int .i64 p.1,val:=.int .i64 p.2,born:=b } :: entI l (b+1)
def mapObjI (l:List (Int×Int)):Obj:=.map (entI l 0).toArray l.length
def Cc (w:World) (g:Nat) (l:List (Int×Int)):Prop:=w.heap[g]?=some (mapObjI l)
theorem entI_append:∀(l l':List (Int×Int)) (b:Nat),entI (l++l') b=entI l b++entI l' (b+l.length)
 | [],_,_=>by simp [entI]
 | _ :: l,l',b=>by simp [entI,entI_append l l' (b+1),Nat.add_assoc,Nat.add_comm 1]
theorem Cc.keep {w w':World} {l:List (Int×Int)} (h:Cc w g l) (z:Ao ok w w') (s:ok g):Cc w' g l:=(z g s (zd h)).trans h
theorem Cc.below {w w':World} {l:List (Int×Int)} (h:Cc w g l) (s:Below w.heap.size w w'):Cc w' g l:=(s.block g (zd h)).trans h
theorem Cc.new (w:World):Cc (w.alloc (.map #[] 0)) w.heap.size []:=FB _ _
open Go.Instr in
theorem Dn (x:Int):∀(l:List (Int×Int)) (b s:Nat),∃i,findNow (.int .i64) (.int .i64 x) (entI l b) s=some ((l.lookup x).map fun d=>(i,.int .i64 d))
 | [],_,_=>⟨0,by simp [entI,findNow]⟩
 | (y,d) :: l,b,s=>by
  simp only [entI,findNow,sameNow,if_true];by_cases h:x=y
  ·subst h;exact ⟨s,by simp⟩
  ·have z:(x==y)=false:=by simpa using h
   simp only [z];obtain ⟨i,D⟩:=Dn x l (b+1) (s+1);refine ⟨i,?_⟩;rw [D,List.lookup_cons,z]
theorem run_farOk {w:World} {l:List (Int×Int)} (h:Cc w g l) (x:Int) (t:TypeId) (z:Tryz.prog.underlying t=some (.map 3 3)):
  (Instr.lookup t (.map (some g)) (.int .i64 x) true).run Tryz.prog w=.ok (.tuple #[.int .i64 ((l.lookup x).getD 0),.bool (l.lookup x).isSome]) w:=by
 have D:∀w,(zeroValue 3).run Tryz.prog w=.ok (.int .i64 0) w:=fun w=>by kernel_rfl
 unfold Instr.lookup;simp only [Sem.run_bind,run_underlying z,Result.andThen_ok,Dk h,mapObjI,Sem.run_pure];rw [show (10000:Nat)=9999+1 from rfl,CR];obtain ⟨i,s⟩:=Dn x l 0 0;simp only [Result.andThen_ok,Instr.findKey,Sem.run_bind,run_underlying Tryz.underlying3,List.toList_toArray,s]
 cases l.lookup x with
 | none=>simp [D]
 | some d=>simp
theorem run_far {w:World} {l:List (Int×Int)} (h:Cc w g l) (x:Int) (t:TypeId) (z:Tryz.prog.underlying t=some (.map 3 3)):
  (Instr.lookup t (.map (some g)) (.int .i64 x) false).run Tryz.prog w=.ok (.int .i64 ((l.lookup x).getD 0)) w:=by
 have D:∀w,(zeroValue 3).run Tryz.prog w=.ok (.int .i64 0) w:=fun w=>by kernel_rfl
 unfold Instr.lookup;simp only [Sem.run_bind,run_underlying z,Result.andThen_ok,Dk h,mapObjI,Sem.run_pure];rw [show (10000:Nat)=9999+1 from rfl,CR];obtain ⟨i,s⟩:=Dn x l 0 0;simp only [Result.andThen_ok,Instr.findKey,Sem.run_bind,run_underlying Tryz.underlying3,List.toList_toArray,s]
 cases l.lookup x with
 | none=>simp [D]
 | some d=>simp
theorem run_farAdd {w:World} {l:List (Int×Int)} (h:Cc w g l) (x d:Int) (E:l.lookup x=none) (t:TypeId) (D:Tryz.prog.underlying t=some (.map 3 3)):
  ∃w',(Instr.mapUpdate t (.map (some g)) (.int .i64 x) (.int .i64 d)).run Tryz.prog w=.ok () w'/\Cc w' g (l++[(x,d)])/\w.grownBy w' (some g):=by
 refine ⟨setBlock w g (mapObjI (l++[(x,d)])),?_,setBlk_same h,⟨rfl,rfl,rfl,by simp [setBlock],fun k _ z=>Dp _ (fun e=>z (by rw [e]))⟩⟩;unfold Instr.mapUpdate;simp only [Sem.run_bind,run_underlying D,Result.andThen_ok,Dk h,mapObjI];rw [show (10000:Nat)=9999+1 from rfl,CR];obtain ⟨i,s⟩:=Dn x l 0 0;rw [E] at s;simp only [Result.andThen_ok,Instr.findKey,Sem.run_bind,run_underlying Tryz.underlying3,List.toList_toArray,s,Option.map_none];simp only [Sem.run_pure,Result.andThen_ok];rw [ED _ h,entI_append];simp [entI]
theorem wpFarAdd {w:World} (I:o.guard=none) (m y v:Operand) (t:TypeId) (D:o.op=Op.mapUpdate t m y v)
  (L:Tryz.prog.underlying t=some (.map 3 3)) (g:Nat) (l:List (Int×Int)) (x d:Int) (O:l.lookup x=none) (hm:a.eval m=.map (some g)) (T:a.eval y=.int .i64 x) (M:a.eval v=.int .i64 d) (J:Cc w g l)
  (E:∀w',Cc w' g (l++[(x,d)])->w.grownBy w' (some g)->wpList Tryz.prog ops Q rest (a.put o.dst undef) w'):wpList Tryz.prog ops Q (o :: rest) a w:=by
 refine wpList_plain I fun K' z=>?_
 obtain ⟨w',s,h1,h2⟩:=run_farAdd J x d O t L;unfold Oper.wp;simp [execOp,D,hm,T,M,s,Result.andThen];exact z _ _ (E w' h1 h2)
end
section
open Go.RowKit
def Que (w:World) (B:Nat) (v:Value) (l:List Int):Prop:=
 (v=.slice none 0 0/\l=[])\/∃g o c cur,v=.slice (some ⟨g,o,none⟩) l.length c/\B<=g/\l.length<=c/\c<=maxLen/\zg w g 3 cur/\o+c<=cur.size/\∀(j:Nat) x,l[j]?=some x->cur[o+j]?=some (.int .i64 x)
theorem Que.nil (w:World) (B:Nat):Que w B (.slice none 0 0) []:=.inl ⟨rfl,rfl⟩
theorem Que.of_own {w:World} {B:Nat} {v:Value} {l:List Int} (h:zA w B v l):Que w B v l:=by
 obtain ⟨M,⟨rfl,h0⟩ | ⟨g,cap,cur,rfl,E,I,z,s,D,J⟩⟩:=h
 ·exact .inl ⟨rfl,List.length_eq_zero_iff.1 h0⟩
 ·refine .inr ⟨g,0,cap,cur,rfl,E,z,s,I,by omega,fun j x L=>?_⟩;have h1:(l.map (Value.int .i64))[j]?=some (.int .i64 x):=by rw [Fx,L];rfl
  rw [<-J,List.getElem?_take] at h1
  split at h1
  ·rw [Nat.zero_add];simpa using h1
  ·cases h1
section
variable {w w':World} {B:Nat} {v:Value} {l:List Int} {x:Int}
theorem Que.ge (h:Que w B v l) (s:v.ownBlock=some k):B<=k/\k<w.heap.size:=by
 rcases h with ⟨rfl,-⟩ | ⟨g,o,c,cur,rfl,D,-,-,z,-⟩
 ·cases s
 ·have:g=k:=by simpa [Value.ownBlock] using s
  subst this;exact ⟨D,zd z⟩
theorem Que.kept {r:Option Nat} (h:Que w B v l) (E:w.grownBy w' r) (s:∀k,v.ownBlock=some k->r≠some k):Que w' B v l:=by
 rcases h with h | ⟨g,o,c,cur,rfl,h1,h2,h3,z,D⟩
 ·exact .inl h
 ·exact .inr ⟨g,o,c,cur,rfl,h1,h2,h3,(E.block g (zd z) (fun e=>s g rfl e.symm)).trans z,D⟩
theorem Que.more (h:Que w B v l) (s:zb w w'):Que w' B v l:=
 h.kept (r:=none) ⟨s.os,s.tape,s.output,s.size,fun i z _=>s.block i z⟩ (fun _ _ e=>by cases e)
theorem Que.slice (h:Que w B v l):∃A c,v=.slice A l.length c/\l.length<=c:=by
 rcases h with ⟨rfl,rfl⟩ | ⟨g,o,c,cur,rfl,-,h2,-⟩
 ·exact ⟨none,0,rfl,EN _⟩
 ·exact ⟨_,c,rfl,h2⟩
theorem Que.head (h:Que w B v (x :: l)):∃g o c v',v=.slice (some ⟨g,o,none⟩) (l.length+1) (c+1)/\l.length<=c/\w.cell? ⟨g,o,none⟩=some (.int .i64 x)/\Que w B v' l/\v'.ownBlock=v.ownBlock/\
  (Instr.sliceAt 23 (.slice (some ⟨g,o,none⟩) (l.length+1) (c+1)) (some (.int .i64 1)) none none).run Tryz.prog w=.ok v' w/\(Instr.slice 23 (.slice (some ⟨g,o,none⟩) (l.length+1) (c+1)) (some (.int .i64 1)) none none).run Tryz.prog w=.ok v' w:=by
 rcases h with ⟨-,h⟩ | ⟨g,o,c,cur,rfl,h1,h2,h3,D,U,O⟩
 ·cases h
 ·obtain ⟨c,rfl⟩:∃c',c=c'+1:=⟨c - 1,by simp at h2;omega⟩;have z:l.length<=c:=by simpa using h2
  have T:(sizeOf 3).run Tryz.prog w=.ok 1 w:=Tryz.sizeOf3 w
  have s:(Instr.slice 23 (.slice (some ⟨g,o,none⟩) (l.length+1) (c+1)) (some (.int .i64 1)) none none).run Tryz.prog w=.ok (.slice (if c+1=1 then some ⟨g,o,none⟩ else some ⟨g,o+1,none⟩) l.length c) w:=by
   have L:(Instr.sliceBounds true (l.length+1) (c+1) (some (.int .i64 1)) none none).run Tryz.prog w=.ok (1,l.length+1,c+1) w:=by
    unfold Instr.sliceBounds;simp only [Sem.run_bind,Sem.run_pure,Result.andThen_ok];rw [run_sliceBound _ _ _ _ _ (by omega) (by omega)];rfl
   unfold Instr.slice;simp only [Sem.run_bind,run_underlying Tryz.underlying23,Result.andThen_ok,L,T,Sem.run_pure,Nat.add_sub_cancel,Nat.mul_one]
   split <;> simp [Addr.add]
  refine ⟨g,o,c,_,rfl,z,?_,?_,?_,(run_sliceAt_slice w 23 _ _ _ _ Tryz.underlying23).trans s,s⟩
  ·have:=O 0 x rfl;unfold World.cell?;have E:w.heap[g]?=_:=D;simp only [E];simpa using this
  ·by_cases I:c=0
   ·subst I;have J:l=[]:=List.length_eq_zero_iff.1 (by omega);subst J;exact .inr ⟨g,o,0,cur,rfl,h1,EN _,by omega,D,by omega,fun j y M=>by simp at M⟩
   ·rw [if_neg (by omega)];refine .inr ⟨g,o+1,c,cur,rfl,h1,z,by omega,D,by omega,fun j y M=>?_⟩;have:=O (j+1) y (by simpa using M);rw [show o+1+j=o+(j+1) by omega];exact this
  ·split <;> rfl
theorem run_que_app (h:Que w B v l) (t ty:TypeId) (ht:Tryz.prog.underlying t=some (.slice 3)) (hc:w.cell? ⟨g,0,none⟩=some (.int .i64 x)) (hB:B<=w.heap.size) (hl:l.length<=1000000000000):
  ∃v' w',(Builtin.append_ #[t,t] ty #[v,.slice (some ⟨g,0,none⟩) 1 c]).run Tryz.prog w=.ok v' w'/\Que w' B v' (l++[x])/\w.grownBy w' v.ownBlock/\(v'.ownBlock=v.ownBlock\/v'.ownBlock=some w.heap.size):=by
 obtain ⟨i0,Z,M,D,O⟩:=info_parts Tryz.infoInt
 have z:∀(j:Nat) (u:Value),[Value.int .i64 x][j]?=some u->w.cell? ((⟨g,0,none⟩:Addr).add j)=some u:=fun j u E=>by
  match j,E with
  | 0,E=>
   have:u=.int .i64 x:=by simpa using E.symm
   rw [this];exact hc
 have T:∀u∈[Value.int .i64 x],u.oneCell'=true:=fun u E=>by
  have:u=.int .i64 x:=by simpa using E
  rw [this];rfl
 rcases h with ⟨rfl,rfl⟩ | ⟨gq,o,cq,cur,rfl,h1,h2,h3,hb,h4,h5⟩
 ·obtain ⟨v',w',s,r1,r2,-⟩:=run_append_own (P:=Tryz.prog) w B t ty 3 i0 (.int .i64 0) 1 8 ht Z M D O rfl (by decide) (.slice none 0 0) 0 [] (World.ownsRow_nil _ _ _ _) ⟨g,0,none⟩ 1 c [.int .i64 x] rfl z T (by unfold maxLen;omega) (by omega) hB;have hO:zA w' B v' [x]:=r1;refine ⟨v',w',s,Que.of_own hO,r2,.inr ?_⟩;have hn:=run_append_nil (P:=Tryz.prog) w t ty 3 i0 (.int .i64 0) ht Z M ⟨g,0,none⟩ 1 c [.int .i64 x] (by rw [D];rfl) z (by omega) (by omega) (by rw [O];omega);rw [s] at hn;injection hn with hn _;rw [hn];rfl
 ·have U:∀j,j<o+cq->∃u,w.cell? ⟨gq,j,none⟩=some u:=fun j hj=>by
   have I:w.heap[gq]?=_:=hb;unfold World.cell?;simp only [I];exact ⟨cur[j]'(by omega),by simp⟩
  have a8:∀j,w.frozen? ⟨gq,j,none⟩=false:=fun j=>by
   have I:w.heap[gq]?=_:=hb;unfold World.frozen?;simp only [I];simp
  by_cases J:l.length+1<=cq
  ·have s:=run_append_room_cells (P:=Tryz.prog) w t ty 3 i0 ht Z gq o l.length cq ⟨g,0,none⟩ 1 c [.int .i64 x] (by rw [D];rfl) z T J
    (fun j hj=>by
     have:j=0:=by simpa using hj
     subst this;obtain ⟨u,E⟩:=U (o+l.length*i0.size+0) (by rw [D];omega);rw [E];rfl) (fun j hj=>a8 _)
   have e1:w.setCells gq (o+l.length*i0.size) [.int .i64 x]=w.setCell ⟨gq,o+l.length,none⟩ (.int .i64 x):=by
    rw [D,Nat.mul_one];rfl
   rw [e1] at s;refine ⟨_,_,s,.inr ⟨gq,o,cq,_,by rw [EV];rfl,h1,by rw [EV];exact J,h3,hb.set _,by simpa using h4,fun j y hy=>?_⟩,⟨rfl,rfl,rfl,by simp,fun k _ hk=>EW w ⟨gq,o+l.length,none⟩ _ k (fun e=>hk (by simp [Value.ownBlock,e]))⟩,.inl rfl⟩;rw [Array.getElem?_setIfInBounds];by_cases hj:j<l.length
   ·rw [if_neg (by omega)];exact h5 j y (by rwa [ES hj] at hy)
   ·rw [ET (by omega)] at hy
    have b6:j - l.length=0:=by
     obtain ⟨h,-⟩:=FM.1 hy;simpa using h
    have a9:j=l.length:=by omega
    subst a9;rw [if_pos rfl,if_pos (by omega)];have:x=y:=by simpa using hy
    rw [this]
  ·have holds:∀(j:Nat) u,(l.map (Value.int .i64))[j]?=some u->w.cell? ((⟨gq,o,none⟩:Addr).add j)=some u:=fun j u E=>by
    rw [Fx] at E
    cases V:l[j]? with
    | none=>rw [V] at E;cases E
    | some y=>
     rw [V] at E;have h6:=h5 j y V;have I:w.heap[gq]?=_:=hb;rw [Addr.add_lit];unfold World.cell?;simp only [I];rw [h6];exact E
   have L:=run_append_grow (P:=Tryz.prog) w t ty 3 i0 (.int .i64 0) ht Z M ⟨gq,o,none⟩ l.length cq (l.map (Value.int .i64)) (by rw [D];simp) holds ⟨g,0,none⟩ 1 c [.int .i64 x] (by rw [D];rfl) z (by omega) (by omega) (growslice_fits (by omega) (by rw [O];omega));obtain ⟨v',w',s,r1,r2⟩:=run_append_arg_grows (P:=Tryz.prog) w t ty 3 i0 (.int .i64 0) 1 8 ht Z M D O rfl (by decide) ⟨gq,o,none⟩ l.length cq (l.map (Value.int .i64)) (by simp) holds ⟨g,0,none⟩ 1 c [.int .i64 x] rfl z (by omega) (by unfold maxLen;omega) (by omega)
   have hO:zA w' w.heap.size v' (l++[x]):=by
    unfold zA;rw [map_snoc,EV];exact r1
   have a7:zA w' B v' (l++[x]):=hO.mono hB;refine ⟨v',w',s,Que.of_own a7,⟨r2.os,r2.tape,r2.output,r2.size,fun k hk _=>r2.block k hk (by simp)⟩,.inr ?_⟩;rw [s] at L;injection L with L _;rw [L];rfl
theorem wpQueApp (I:o.guard=none) (s y:Operand)
  (O:o.op=.call { callee:=.builtin .append,args:=#[s,y],argTypes:=#[23,23] }) (W:World) (l:List Int) (x:Int) (B g c:Nat) (v:Value) (T:a.eval s=v)
  (U:a.eval y=.slice (some ⟨g,0,none⟩) 1 c) (z:Que W B v l) (L:W.cell? ⟨g,0,none⟩=some (.int .i64 x)) (J:B<=W.heap.size) (M:l.length<=1000000000000)
  (h:∀v' w',Que w' B v' (l++[x])->Hid (W.grownBy w' v.ownBlock)->Hid (v'.ownBlock=v.ownBlock\/v'.ownBlock=some W.heap.size)->wpList Tryz.prog ops Q rest (a.put o.dst v') w'):wpList Tryz.prog ops Q (o :: rest) a W:=by
 refine wpList_plain I fun K E=>?_
 obtain ⟨v',w',D,r1,r2,r3⟩:=run_que_app z 23 o.type Tryz.underlying23 (c:=c) L J M;unfold Oper.wp;simp [execOp,O,resolve,invoke,builtin,T,U,D,Result.andThen];exact E _ _ (h v' w' r1 r2 r3)
end
end
end Go.Proofs.YthbjngbhbbkkgaaGreat
