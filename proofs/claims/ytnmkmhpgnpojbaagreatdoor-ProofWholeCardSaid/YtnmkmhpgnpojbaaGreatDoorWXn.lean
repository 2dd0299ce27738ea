import Derived.Test.YtnmkmhpgnpojbaaGreatDoorWXm
set_option linter.unusedVariables false
set_option linter.unusedSimpArgs false
set_option maxRecDepth 100000
set_option maxHeartbeats 16000000
namespace Go.Proofs.YtnmkmhpgnpojbaaGreatDoor
variable {n x:Int} {ps:List (List Int)} {c ch l us:List Int} {m:MZ} {k t:Nat}
section
open Go.RowKit
def splitL (m:MZ) (ch:List Int):List (List Int):=zC m ch++(if zL m ch=true then [[]] else [])
theorem splitL_ncmp (h:zL m ch=false):splitL m ch=zC m ch:=by unfold splitL;rw [h];simp
theorem addN_snoc {qs:List (List Int)} {p:List Int}:Bo (qs++[p]) x=qs++[p++[x]]:=by
 unfold Bo;rw [Dz,DR,Nat.add_sub_cancel,List.set_append_right _ _ (Dq _)];simp
theorem ps_form (h:zr m ch) (D:zL m ch=false):∃qs p,zC m ch=qs++[p]/\qs.length<m.tasks.length/\splitL m ch=qs++[p]:=by
 have o:=h.psOk;have z:=o.pn (Bq D);rcases List.eq_nil_or_concat (zC m ch) with d | ⟨qs,p,d⟩
 ·rw [d] at z;simp at z
 ·rw [List.concat_eq_append] at d;have B:=o.pl;rw [d] at B;simp only [Dz,DR] at B;exact ⟨qs,p,d,by omega,by rw [splitL_ncmp D,d]⟩
section
open Go.Lib
theorem Cd (d:Array Int) (D:∀i j,i<=j->j<d.size->d[i]!<=d[j]!):∀m,m<=d.size->(compactUpTo d m).Pairwise (·<·)/\∀x,x∈compactUpTo d m↔∃j,j<m/\d[j]! =x
 | 0,_=>⟨by simp [compactUpTo],fun x=>by simp [compactUpTo]⟩
 | m+1,hm=>by
  obtain ⟨E,B⟩:=Cd d D m (by omega);rw [compactUpTo_succ];by_cases hk:keeps d m=true
  ·rw [if_pos hk];refine ⟨?_,fun x=>?_⟩
   ·rw [List.pairwise_append];refine ⟨E,by simp,fun a I b G=>?_⟩;rw [DY] at G;subst G;obtain ⟨j,z,rfl⟩:=(B a).1 I;unfold keeps at hk;rw [DB] at hk;rcases hk with hk | hk
    ·omega
    ·have K:=D j (m - 1) (by omega) (by omega);have L:=D (m - 1) m (by omega) (by omega);omega
   ·rw [Eg,B,DY];constructor
    ·rintro (⟨j,z,e⟩ | e)
     ·exact ⟨j,by omega,e⟩
     ·exact ⟨m,by omega,e.symm⟩
    ·rintro ⟨j,z,e⟩;by_cases o:j=m
     ·subst o;exact .inr e.symm
     ·exact .inl ⟨j,by omega,e⟩
  ·rw [if_neg hk,List.append_nil];refine ⟨E,fun x=>?_⟩;rw [B];unfold keeps at hk;rw [DB] at hk;have J:m≠0:=fun h=>hk (.inl h)
   have he:d[m]! =d[m - 1]!:=Decidable.byContradiction fun h=>hk (.inr h)
   constructor
   ·rintro ⟨j,z,e⟩;exact ⟨j,by omega,e⟩
   ·rintro ⟨j,z,e⟩;by_cases o:j=m
    ·subst o;exact ⟨j - 1,by omega,by rw [<-he];exact e⟩
    ·exact ⟨j,by omega,e⟩
theorem compact_sorted (l:List Int):(compact (AG l)).Pairwise (·<·)/\∀x,x∈compact (AG l)↔x∈l:=by
 have hp:(AG l).Pairwise (fun x y=>decide (x<=y)=true):=by
  unfold AG;exact List.pairwise_mergeSort (fun a b c o z=>by simp only [DB] at *;omega) (fun a b=>by simp only [Et,DB];omega) l
 have E:∀i j,i<=j->j<(AG l).toArray.size->(AG l).toArray[i]!<=(AG l).toArray[j]!:=by
  intro i j D d;rw [List.size_toArray] at d;have B:i<(AG l).length:=by omega
  rw [getElem!_pos _ i (by simpa using B),getElem!_pos _ j (by simpa using d)];simp only [List.getElem_toArray];rcases DO i j with h | h
  ·have:=List.pairwise_iff_getElem.1 hp i j B d h;simpa using this
  ·have:i=j:=by omega
   subst this;exact Int.le_refl _
 obtain ⟨o,z⟩:=Cd (AG l).toArray E (AG l).length (by simp);refine ⟨o,fun x=>?_⟩;unfold compact;rw [z,<-mem_sortL (l:=l)];constructor
 ·rintro ⟨j,d,e⟩;rw [getElem!_pos _ j (by simpa using d)] at e;simp only [List.getElem_toArray] at e;rw [<-e];exact Dr d
 ·intro G;obtain ⟨j,d,e⟩:=DX G;exact ⟨j,d,by rw [getElem!_pos _ j (by simpa using d)];simpa using e⟩
end
theorem pw_eq {l':List Int} (h:l.Pairwise (·<·)) (z:l'.Pairwise (·<·)) (he:∀x,x∈l↔x∈l'):l=l':=by
 have n1:l.Nodup:=h.imp (fun o=>by omega);have n2:l'.Nodup:=z.imp (fun o=>by omega);have d:l.Perm l':=(List.perm_ext_iff_of_nodup n1 n2).2 he;exact List.Perm.eq_of_pairwise (le:=fun a b=>a<b) (fun a b _ _ B D=>by omega) h z d
theorem range_pw (n:Nat):((List.range n).map Int.ofNat).Pairwise (·<·):=by
 rw [List.pairwise_map];exact (List.pairwise_lt_range (n:=n)).imp (fun h=>by simpa using h)
def begL (m:MZ) (t:Nat) (ch:List Int):List Int:=((List.range m.n.toNat).map Int.ofNat).filter fun k=>decide (k∈(m.tasks.getD t ([],[])).1) && zf m t k && !decide (k∈ch)
theorem cand_beg (g:zE m) {qs:List (List Int)} (z:zC m ch=qs++[[]]) (D:zL m ch=false) (d:qs.length<m.tasks.length):cand m ch=begL m qs.length ch:=by
 unfold cand Bu;have E:(qs++[([]:List Int)]).length - 1=qs.length:=by simp
 have G:(qs++[([]:List Int)]).getD qs.length []=[]:=by simp [Dp]
 unfold zL at D;rw [D,z,if_neg (by simp),E,G];show List.filter _ _=_;obtain ⟨s1,s2⟩:=compact_sorted (m.tasks.getD qs.length ([],[])).1;refine pw_eq (s1.filter _) ((range_pw _).filter _) fun x=>?_;show x∈List.filter _ _↔x∈begL m qs.length ch;unfold begL;rw [Ep,Ep,s2,Er];simp only [DD,DB,Bool.not_eq_true',DP,Es];constructor
 ·rintro ⟨o,hf,B⟩;rw [Dp,Do d,DW] at o;have I:=g.tn _ (Dr d) x (.inl o);refine ⟨⟨x.toNat,by omega,by show (x.toNat:Int)=x;omega⟩,⟨?_,hf⟩,B⟩;rw [Dp,Do d,DW];exact o
 ·rintro ⟨_,⟨o,hf⟩,B⟩;exact ⟨o,hf,B⟩
theorem cand_on {qs:List (List Int)} {p:List Int} {y:Int} (d:zC m ch=qs++[p++[y]]) (o:zL m ch=false):cand m ch=(zg m y).filter (zD m ch qs.length p (m.tasks.getD qs.length ([],[])).1):=by
 unfold cand Bu;have z:(qs++[p++[y]]).length - 1=qs.length:=by simp
 have B:(qs++[p++[y]]).getD qs.length []=p++[y]:=by simp [Dp]
 unfold zL at o;rw [o,d,if_neg (by simp),z,B];simp
theorem cand_cmp (d:zL m ch=true):cand m ch=[]:=by
 unfold cand Bu;unfold zL at d;rw [if_pos d]
structure SpA (w1 wr:World) (v u:Value) (vs:List Value) (S:Nat) (qs:List (List Int)) (p:List Int):Prop where
 ext:zb w1 wr
 lo:w1.heap.size<=S
 hi:S<=wr.heap.size
 own:Bz wr w1.heap.size v (vs++[u])
 vl:vs.length=qs.length
 old:∀(i:Nat) q,qs[i]?=some q->∃x,vs[i]?=some x/\zt wr w1.heap.size x q/\∀g,x.ownBlock=some g->g<S
 cur:zt wr S u p
def SpV (w1 wr:World) (v:Value) (qs:List (List Int)) (p:List Int):Prop:=∃u vs S,SpA w1 wr v u vs S qs p
theorem CR {w:World} {B:Nat} {v:Value} (h:zt w B v l):∃A n c,v=.slice A n c:=by
 obtain ⟨A,c,e,_⟩:=AV h;exact ⟨A,_,c,e⟩
section
variable {w1 wr w':World} {v u u':Value} {vs:List Value} {S:Nat} {qs:List (List Int)} {p:List Int}
theorem SpA.more (h:SpA w1 wr v u vs S qs p) (d:zb wr w'):SpA w1 w' v u vs S qs p:=
 ⟨h.ext.trans d,h.lo,Dt h.hi d.size,h.own.ext d,h.vl,fun i q D=>by
  obtain ⟨x,o,z,B⟩:=h.old i q D;exact ⟨x,o,z.ext d,B⟩,h.cur.ext d⟩
theorem SpV.more (h:SpV w1 wr v qs p) (d:zb wr w'):SpV w1 w' v qs p:=by
 obtain ⟨u,vs,S,h⟩:=h;exact ⟨u,vs,S,h.more d⟩
theorem SpA.form (h:SpA w1 wr v u vs S qs p):∃g c,v=.slice (some ⟨g,0,none⟩) (qs.length+1) c/\w1.heap.size<=g/\qs.length+1<=c/\wr.cell? ⟨g,qs.length,none⟩=some u:=by
 have z:(vs++[u]).length=qs.length+1:=by rw [Dz,DR,h.vl]
 have d:=h.own;unfold Bz at d;rw [z] at d;obtain ⟨g,c,rfl,o,B⟩:=World.ownsRow.form d (by omega);refine ⟨g,c,rfl,o,Be d,?_⟩;rw [World.ownsRow.cellAt d _ (by omega),<-h.vl,Dx (Dq _),Nat.sub_self];rfl
theorem SpA.push {g n c:Nat} (h:SpA w1 wr (.slice (some ⟨g,0,none⟩) n c) u vs S qs p) (K:zt w' S u' (p++[x])) (D:Hid (wr.grownBy w' u.ownBlock)):
  SpA w1 (w'.setCell ⟨g,qs.length,none⟩ u') (.slice (some ⟨g,0,none⟩) n c) u' vs S qs (p++[x]):=by
 have o:=h.cur;have d:Bz w' w1.heap.size (.slice (some ⟨g,0,none⟩) n c) (vs++[u]):=World.ownsRow.kept h.own D.out (own_ne h.own o (by decide));have M:w1.heap.size<=g:=(World.ownsRow.lt h.own g rfl).1;have E:zb w1 w':=Ab h.ext D h.ext.size (fun k O=>Dt h.lo (AF o O))
 have B:=(World.ownsRow.stored (n:=n) (cap:=c) (xs:=vs++[u]) (by
  have G:(vs++[u]).length=n:=by
   have h0:=d;unfold Bz at h0;obtain ⟨g',c',e,_,_⟩:=World.ownsRow.form h0 (by simp);injection e with _ e2 _;exact e2.symm
  have h0:=d;unfold Bz at h0
  rwa [G] at h0) qs.length u')
 refine ⟨E.setCell M _,h.lo,Dt h.hi (by rw [World.setCell];simpa using D.out.size),?_,h.vl,fun i q Q=>?_,?_⟩
 ·have z:=B.1;rw [<-h.vl,List.set_append_right _ _ (Dq _),Nat.sub_self] at z
  have G:n=(vs++[u']).length:=by
   have:=B.1.1;rw [<-h.vl,List.set_append_right _ _ (Dq _),Nat.sub_self] at this;simp at this⊢;omega
  unfold Bz;rw [<-G];rw [h.vl] at z;exact z
 ·obtain ⟨x',z,L,I⟩:=h.old i q Q
  have J:zt w' w1.heap.size x' q:=World.ownsRow.kept L D.out (by
   cases U:x'.ownBlock with
   | none=>exact .inl rfl
   | some k=>
    refine .inr fun e=>?_
    have:=I k U;have:=AF o e.symm;omega)
  refine ⟨x',z,ownsRow_setCell_other J (fun e=>?_) _,I⟩;rcases own_ne J d (by decide) with h5 | h5
  ·rw [h5] at e;cases e
  ·exact h5 e
 ·refine ownsRow_setCell_other K (fun e=>?_) _;rcases own_ne K d (by decide) with h5 | h5
  ·rw [h5] at e;cases e
  ·exact h5 e
theorem SpA.next {v':Value} (h:SpA w1 wr v u vs S qs p) (K:Bz w' w1.heap.size v' (vs++[u]++[.slice none 0 0])) (D:Hid (wr.grownBy w' v.ownBlock)):
  SpA w1 w' v' (.slice none 0 0) (vs++[u]) wr.heap.size (qs++[p]) []:=by
 have z:∀{x:Value} {B:Nat} {l:List Int},zt wr B x l->zt w' B x l:=fun G=>World.ownsRow.kept G D.out (own_ne G h.own (by decide))
 refine ⟨Ab h.ext D h.ext.size (fun k z=>(World.ownsRow.lt h.own k z).1),h.ext.size,D.out.size,K,by simp [h.vl],fun i q o=>?_,World.ownsRow_nil _ _ _ _⟩;rcases DO i qs.length with hi | hi
 ·rw [Dw hi] at o;obtain ⟨x,h1,I,J⟩:=h.old i q o;exact ⟨x,by rw [Dw (by rw [h.vl];exact hi)];exact h1,z I,fun g d=>DT (J g d) h.hi⟩
 ·have E:i=qs.length:=by
   rcases DO i (qs++[p]).length with h1 | h1
   ·simp at h1;omega
   ·rw [DL h1] at o;cases o
  subst E;rw [Dx (Dq _),Nat.sub_self] at o;have hp:p=q:=by simpa using o
  subst hp;refine ⟨u,by rw [<-h.vl,Dx (Dq _),Nat.sub_self];rfl,(z h.cur).mono h.lo,fun g d=>(World.ownsRow.lt h.cur g d).2⟩
theorem SpA.intss (h:SpA w1 wr v u vs S qs p):zU wr (fun b=>w1.heap.size<=b) v (qs++[p]):=by
 refine ⟨vs++[u],?_,fun i q d=>?_⟩
 ·have h1:=Aw.of_own h.own;have o:(vs++[u]).length=(qs++[p]).length:=by simp [h.vl]
  rw [o] at h1;exact h1
 ·rcases DO i qs.length with hi | hi
  ·rw [Dw hi] at d;obtain ⟨x,h1,o,B⟩:=h.old i q d;exact ⟨x,by rw [Dw (by rw [h.vl];exact hi)];exact h1,Aw.of_own o⟩
  ·have z:i=qs.length:=by
    rcases DO i (qs++[p]).length with h1 | h1
    ·simp at h1;omega
    ·rw [DL h1] at d;cases d
   subst z;rw [Dx (Dq _),Nat.sub_self] at d;have hp:p=q:=by simpa using d
   subst hp;exact ⟨u,by rw [<-h.vl,Dx (Dq _),Nat.sub_self];rfl,Aw.of_own (h.cur.mono h.lo)⟩
theorem SpV.intss (h:SpV w1 wr v qs p):zU wr (fun b=>w1.heap.size<=b) v (qs++[p]):=by
 obtain ⟨u,vs,S,h⟩:=h;exact h.intss
theorem SpA.init {W:World} (h:zb w1 W):SpA w1 (W.alloc (.cells #[.slice none 0 0] 23)) (.slice (some ⟨W.heap.size,0,none⟩) 1 1) (.slice none 0 0) [] W.heap.size [] []:=
 ⟨h.alloc _,h.size,by simp,⟨rfl,.inr ⟨W.heap.size,1,#[.slice none 0 0],rfl,h.size,Ee W _,Dq _,by decide,rfl,rfl⟩⟩,rfl,fun i q d=>by simp at d,World.ownsRow_nil _ _ _ _⟩
end
end
section
open Go.RowKit
attribute [local go_sem ↓] Go.wp_at_zero Go.wp_at_succ
theorem reachL_le (m:MZ) (t:Nat) (f us:List Int) (g:zE m):(Bh m t f us).length<=20000000000000:=by
 unfold Bh;refine Dt (DU _ _) ?_;have d:=g.dim.n1;have o:m.n=m.w*m.h*m.l:=rfl;simp;omega
def zp (m:MZ) (ch:List Int):List (List Int):=if okC m ch=true then (zC m ch).filter (fun p=>decide (p.length≠0)) else []
end
section
open Go.RowKit
inductive PT where
 | node (task:Int) (side:List Int) (kids:List PT)
def PT.task:PT->Int | .node t _ _=>t
def PT.side:PT->List Int | .node _ s _=>s
def PT.kids:PT->List PT | .node _ _ k=>k
def PT.zero:PT:=.node 0 [] []
def ownM (m:MZ) (k:Nat):MZ:=⟨m.w,m.h,m.l,[m.free.getD k []],m.up,[m.tasks.getD k ([],[])]⟩
def laidK (m:MZ) (ps:List (List Int)) (k:Nat):Bool:=decide (ps.getD k []=[]) || rightB (ownM m k) [ps.getD k []]
def laidB (m:MZ) (ps:List (List Int)):Bool:=decide (AS m=0) && (decide (ps.length=m.tasks.length) && ((List.range ps.length).all (laidK m ps) && decide ps.flatten.Nodup))
def AY (ps:List (List Int)) (t k:Nat):Bool:=decide (k=t) || decide (ps.getD k []≠[])
def BT (ps:List (List Int)) (t:Nat):List Nat:=(List.range ps.length).filter (AY ps t)
def subM (m:MZ) (ps:List (List Int)) (t:Nat):MZ:=⟨m.w,m.h,m.l,(BT ps t).map (m.free.getD · []),m.up,(BT ps t).map (m.tasks.getD · ([],[]))⟩
def combos:Nat->List Int->List (List Int)
 | 0,_=>[[]]
 | _+1,[]=>[]
 | k+1,x :: l=>(combos k l).map (x :: ·)++combos (k+1) l
def subsP (l:List Int):List (List Int):=(List.range (l.length+1)).flatMap fun k=>combos k l
def laidL (ps:List (List Int)):List Int:=((List.range ps.length).filter fun k=>decide (ps.getD k []≠[])).map Int.ofNat
def clearP (ps:List (List Int)) (set:List Int):List (List Int):=set.foldl (fun o k=>o.set k.toNat []) ps
def pushL (m:MZ):List Int->List (List Int)->Option (List (List Int))
 | [],o=>some o
 | k :: l,o=>match pathP m k o with
  | none=>none
  | some p=>pushL m l (o.set k.toNat p)
def pushP (m:MZ) (ps:List (List Int)) (t:Int) (set:List Int):Option (List (List Int)):=pushL m (t :: set) (clearP ps set)
def endB (m:MZ) (pp:List (List Int)) (t:Nat):Bool:=match (pp.getD t []).getLast? with
 | none=>false
 | some x=>decide (x∈(m.tasks.getD t ([],[])).2)
def curF (m:MZ) (pp:List (List Int)):Nat->Nat->Nat
 | 0,t=>t
 | f+1,t=>if t<pp.length/\endB m pp t=true then curF m pp f (t+1) else t
def zO (m:MZ) (ch:List Int):Nat:=curF m (zp m ch) (zp m ch).length 0
def zZ (m:MZ) (ch:List Int) (t:Nat):List Int:=if t<(zp m ch).length then ((zp m ch).getD t []).getLast?.toList else (m.tasks.getD t ([],[])).1.filter fun n=>zf m t n && !decide (n∈ch)
noncomputable def By (m:MZ) (ch:List Int) (t:Nat):List Int:=reachO m t (zZ m ch t) ch
noncomputable def offB (m:MZ) (ch:List Int) (t:Nat):Bool:=!((By m ch t).any fun n=>decide (n∈(m.tasks.getD t ([],[])).2)) && (decide (By m ch t≠[]) || decide (zO m ch<t))
noncomputable def cutT (m:MZ) (ch:List Int):Option Nat:=((List.range (m.tasks.length - zO m ch)).map (zO m ch+·)).find? (offB m ch)
def zI (f:Int->Nat->Int×PT×Nat):List Int->Nat->List PT->Int×List PT×Nat
 | [],k,acc=>(0,acc,k)
 | n :: l,k,acc=>if (f n k).1=0 then zI f l (f n k).2.2 (acc++[(f n k).2.1]) else ((f n k).1,[],(f n k).2.2)
noncomputable def zm (m:MZ):Nat->List Int->Nat->Int×PT×Nat
 | 0,_,k=>(53,.zero,k)
 | f+1,ch,k=>
  if m.tasks.length<=zO m ch then (51,.zero,k)
  else if 3000<k+1 then (53,.zero,k+1)
  else match cutT m ch with
   | some t=>(0,.node t (By m ch t) [],k+1)
   | none=>
    let r:=zI (fun n k=>zm m f (ch++[n]) k) (zQ m ch) (k+1) []
    if r.1=0 then (0,.node (zO m ch) [] r.2.1,r.2.2) else (r.1,.zero,r.2.2)
noncomputable def zJ (m:MZ):Int×PT:=if AS m=0 then ((zm m (m.n.toNat+2) [] 0).1,(zm m (m.n.toNat+2) [] 0).2.1) else (AS m,.zero)
mutual
def PT.size:PT->Nat
 | .node _ _ ks=>1+PT.sizeL ks
def PT.sizeL:List PT->Nat
 | []=>0
 | k :: ks=>k.size+PT.sizeL ks
end
def incB (N:Int):Int->List Int->Bool
 | _,[]=>true
 | b,x :: l=>decide (b<x) && (decide (x<N) && incB N x l)
def wallB (m:MZ) (ch:List Int) (t:Nat) (s:List Int):Bool:=s.all fun n=>(BK m n).all fun k=>!(zf m t k && !decide (k∈ch)) || decide (k∈s)
def cutB (m:MZ) (ch:List Int) (t:Int) (s:List Int) (nk:Nat):Bool:=
 if t<zO m ch\/(m.tasks.length:Int)<=t\/(t=zO m ch/\s=[])\/nk≠0 then false
 else incB m.n (-1) s && (!(s.any fun n=>decide (n∈(m.tasks.getD t.toNat ([],[])).2)) && ((zZ m ch t.toNat).all (fun n=>decide (n∈s)) && wallB m ch t.toNat s))
mutual
def AE (m:MZ):PT->List Int->Bool
 | .node t s ks,ch=>if m.tasks.length<=zO m ch then false else if t≠zO m ch\/s≠[] then cutB m ch t s ks.length else AA m ks ch (zQ m ch)
def AA (m:MZ):List PT->List Int->List Int->Bool
 | [],_,[]=>true
 | k :: ks,ch,n :: l=>AE m k (ch++[n]) && AA m ks ch l
 | [],_,_ :: _=>false
 | _ :: _,_,[]=>false
end
def Az (m:MZ) (p:PT):Bool:=decide (AS m=0) && (decide (0<m.tasks.length) && (decide (p.size<=3000) && AE m p []))
structure AddR where
 ps:List (List Int)
 mv:List Int
 why:PT
 err:Int
def mvP (ps:List (List Int)) (t k:Nat) (f:List Int) (mv:List Int):List Int:=if k≠t/\ps.getD k []≠f then mv++[(k:Int)] else mv
def fillP (ps:List (List Int)) (t:Nat):List Nat->List (List Int)->List (List Int)->List Int->List (List Int)×List Int
 | [],_,o,mv=>(o,mv)
 | k :: l,fd,o,mv=>if AY ps t k=true then fillP ps t l fd.tail (o.set k (fd.headD [])) (mvP ps t k (fd.headD []) mv) else fillP ps t l fd o mv
noncomputable def endS (m:MZ) (ps:List (List Int)) (t:Nat):RS:=RS.run (subM m ps t) 20000 ⟨[],zL (subM m ps t) [],0⟩
noncomputable def searchP (m:MZ) (ps:List (List Int)) (t:Nat):AddR:=
 if (endS m ps t).done=false then ⟨[],[],.zero,53⟩
 else if zL (subM m ps t) (endS m ps t).ch=true then ⟨(fillP ps t (List.range ps.length) (zC (subM m ps t) (endS m ps t).ch) ps []).1,(fillP ps t (List.range ps.length) (zC (subM m ps t) (endS m ps t).ch) ps []).2,.zero,0⟩
 else if (zJ (subM m ps t)).1=0 then ⟨[],[],(zJ (subM m ps t)).2,54⟩ else ⟨[],[],.zero,(zJ (subM m ps t)).1⟩
noncomputable def addP (m:MZ) (ps:List (List Int)) (t:Int):AddR:=
 if (laidB m ps && (knownB m t && decide (ps.getD t.toNat []=[])))=true then
  match (subsP (laidL ps)).findSome? fun s=>(pushP m ps t s).map fun o=>(o,s) with
  | some r=>⟨r.1,r.2,.zero,0⟩
  | none=>searchP m ps t.toNat
 else ⟨[],[],.zero,1⟩
theorem cand_pw (g:zE m) (h:zr m ch):(cand m ch).Pairwise (·<·):=by
 cases d:zL m ch
 ·obtain ⟨qs,p,o,z,B⟩:=ps_form h d;rcases List.eq_nil_or_concat p with rfl | ⟨q,y,rfl⟩
  ·rw [cand_beg g o d z];exact (range_pw _).filter _
  ·rw [List.concat_eq_append] at o;rw [cand_on o d];exact (nextL_pw g.dim y).filter _
 ·rw [cand_cmp d];exact List.Pairwise.nil
structure Goal (m:MZ) (c:List Int):Prop where
 ch:zr m c
 cmp:zL m c=true
 op:∀k,k<c.length->Ay m (c.take (k+1))=true
def Cw (ch c:List Int):Prop:=(∃r,c=ch++r)\/∃k,k<ch.length/\k<c.length/\ch.take k=c.take k/\ch.getD k 0<c.getD k 0
theorem aft_le {b:Int} (hp:(cand m ch).Pairwise (·<·)) (d:x∈cand m ch) (o:b<x) (z:Ay m (ch++[x])=true):∃n,aft m ch b=some n/\n<=x:=by
 unfold aft
 cases hf:(cand m ch).find? fun n=>decide (b<n) && Ay m (ch++[n]) with
 | none=>
  have:=List.find?_eq_none.1 hf x d;simp [o,z] at this
 | some n=>
  refine ⟨n,rfl,?_⟩;obtain ⟨_,l1,l2,B,D⟩:=List.find?_eq_some_iff_append.1 hf;rw [B] at d hp;rcases Eg.1 d with h | h
  ·have:=D x h;simp [o,z] at this
  ·rcases Ef.1 h with rfl | h
   ·exact Int.le_refl _
   ·have E:=(List.pairwise_append.1 hp).2.1;have:=(List.pairwise_cons.1 E).1 x h;omega
theorem notBehind_at (d:k<c.length) (B:n<=c.getD k 0):Cw (c.take k++[n]) c:=by
 have z:c.getD k 0=c[k]:=by rw [Dp,Do d,DW]
 have o:(c.take k).length=k:=by rw [Ej];omega
 rcases Int.lt_or_le n (c.getD k 0) with h | h
 ·refine .inr ⟨k,by simp;omega,d,?_,?_⟩
  ·rw [List.take_append_of_le_length (by omega),List.take_take,Nat.min_self]
  ·have:(c.take k++[n]).getD k 0=n:=by
    rw [Dp,Dx (by omega),o,Nat.sub_self];rfl
   rw [this];exact h
 ·have:n=c[k]:=by omega
  subst this;exact .inl ⟨c.drop (k+1),by rw [<-Dy d,List.take_append_drop]⟩
theorem Goal.cand {m:MZ} {c:List Int} (h:Goal m c) {k:Nat} (d:k<c.length):c.getD k 0∈Go.Proofs.YtnmkmhpgnpojbaaGreatDoor.cand m (c.take k)/\Ay m (c.take k++[c.getD k 0])=true:=by
 have o:c.getD k 0=c[k]:=by rw [Dp,Do d,DW]
 rw [o];exact ⟨h.ch.at d,by rw [<-Dy d];exact h.op k d⟩
theorem CV {m:MZ} (g:zE m) {ch c:List Int} (hG:Goal m c) {k:Nat} (E:k<ch.length) (d:k<c.length) (o:ch.take k=c.take k) (z:ch.getD k 0<c.getD k 0):∀j,k<j->j<=ch.length->∃ch',backN m ch j=some ch'/\Cw ch' c
 | 0,h,_=>by omega
 | j+1,I,G=>by
  unfold backN;rcases DO k j with hkj | hkj
  ·split
   ·rename_i n D
    refine ⟨_,rfl,.inr ⟨k,by simp;omega,d,?_,?_⟩⟩
    ·rw [List.take_append_of_le_length (by rw [Ej];omega),List.take_take,Nat.min_eq_left (by omega)];exact o
    ·have:(ch.take j++[n]).getD k 0=ch.getD k 0:=by
      rw [Dp,Dw (by rw [Ej];omega),List.getElem?_take_of_lt hkj,<-Dp]
     rw [this];exact z
   ·exact CV g hG E d o z j hkj (by omega)
  ·obtain rfl:j=k:=by omega
   obtain ⟨c1,c2⟩:=hG.cand d;obtain ⟨n,D,B⟩:=aft_le (cand_pw g (hG.ch.take j)) c1 z c2;rw [o,D];exact ⟨_,rfl,notBehind_at d B⟩
theorem step_notBehind (g:zE m) (hG:Goal m c) (d:zr m ch) (o:Cw ch c) (J:zL m ch=false):∃ch',stepC m ch=some ch'/\Cw ch' c:=by
 unfold stepC;rcases o with ⟨r,z⟩ | ⟨k,B,E,G,I⟩
 ·have K:ch.length<c.length:=by
   rw [z,Dz]
   cases r with
   | nil=>rw [List.append_nil] at z;subst z;rw [hG.cmp] at J;cases J
   | cons x r=>simp
  have ht:c.take ch.length=ch:=by rw [z,List.take_append_of_le_length (Dq _),DC]
  obtain ⟨c1,c2⟩:=hG.cand K;rw [ht] at c1 c2;have L:=((zr.snoc d c1).range g).1 _ (List.mem_append_right _ (DY.2 rfl));obtain ⟨n,o,D⟩:=aft_le (cand_pw g d) c1 (b:=-1) (by omega) c2;rw [o];refine ⟨_,rfl,?_⟩;have:=notBehind_at K D
  rwa [ht] at this
 ·split
  ·rename_i n o
   refine ⟨_,rfl,.inr ⟨k,by simp;omega,E,?_,?_⟩⟩
   ·rw [List.take_append_of_le_length (by omega)];exact G
   ·have:(ch++[n]).getD k 0=ch.getD k 0:=by
     rw [Dp,Dw B,<-Dp]
    rw [this];exact I
  ·exact CV g hG B E G I ch.length B (Dq _)
theorem run_goal {m:MZ} (g:zE m) {c:List Int} (hG:Goal m c):∀(n:Nat) {s:RS},zr m s.ch->Cw s.ch c->s.done=zL m s.ch->(RS.run m n s).done=zL m (RS.run m n s).ch
 | 0,s,_,_,h=>h
 | n+1,s,d,B,o=>by
  unfold RS.run
  split
  ·exact o
  ·rename_i I
   have G:zL m s.ch=false:=by rw [<-o];simpa using I
   obtain ⟨ch',z,D⟩:=step_notBehind g hG d B G;have E:s.one m=⟨ch',zL m ch',s.steps+1⟩:=by unfold RS.one;rw [z]
   rw [E];exact run_goal g hG n (s:=⟨ch',zL m ch',s.steps+1⟩) (stepC_some d z).1 D rfl
def Apart (ps:List (List Int)):Prop:=(∀i,(ps.getD i []).Nodup)/\∀i j x,x∈ps.getD i []->x∈ps.getD j []->i=j
theorem AP:x∈ps.flatten↔∃i,x∈ps.getD i []:=by
 rw [List.mem_flatten];constructor
 ·rintro ⟨p,hp,d⟩;obtain ⟨i,o,rfl⟩:=DX hp;exact ⟨i,by rw [Dp,Do o];exact d⟩
 ·rintro ⟨i,d⟩;by_cases o:i<ps.length
  ·exact ⟨_,getD_mem o,d⟩
  ·rw [Dp,DL (by omega)] at d;cases d
theorem Cu:x∈(ps.take t).flatten↔∃i,i<t/\x∈ps.getD i []:=by
 rw [AP];constructor
 ·rintro ⟨i,d⟩;rw [Dp,List.getElem?_take] at d
  split at d
  ·rename_i h;exact ⟨i,h,by rw [Dp];exact d⟩
  ·cases d
 ·rintro ⟨i,h,d⟩;exact ⟨i,by rw [Dp,List.getElem?_take,if_pos h,<-Dp];exact d⟩
theorem apart_iff:∀{ps:List (List Int)},ps.flatten.Nodup↔Apart ps
 | []=>by simp [Apart]
 | p :: ps=>by
  rw [List.flatten_cons,List.nodup_append,apart_iff (ps:=ps)];constructor
  ·rintro ⟨z,⟨B,E⟩,D⟩;refine ⟨fun i=>?_,fun i j x d o=>?_⟩
   ·cases i with
    | zero=>simpa using z
    | succ i=>simpa using B i
   ·cases i with
    | zero=>cases j with
     | zero=>rfl
     | succ j=>exact absurd rfl (D x (by simpa using d) x (AP.2 ⟨j,by simpa using o⟩))
    | succ i=>cases j with
     | zero=>exact absurd rfl (D x (by simpa using o) x (AP.2 ⟨i,by simpa using d⟩))
     | succ j=>rw [E i j x (by simpa using d) (by simpa using o)]
  ·rintro ⟨z,B⟩;refine ⟨by simpa using z 0,⟨fun i=>by simpa using z (i+1),fun i j x d o=>?_⟩,fun a G b I e=>?_⟩
   ·have:=B (i+1) (j+1) x (by simpa using d) (by simpa using o);omega
   ·subst e;obtain ⟨i,d⟩:=AP.1 I;have:=B 0 (i+1) a (by simpa using G) (by simpa using d);omega
theorem AT {α:Type} {l:List α} {i j:Nat} {a d:α}:(l.set i a).getD j d=if i=j/\j<l.length then a else l.getD j d:=by
 rw [Dp,Dp,List.getElem?_set];by_cases h:i=j
 ·subst h;by_cases o:i<l.length
  ·simp [o]
  ·simp [o]
 ·simp [h]
theorem Apart.set {ps:List (List Int)} {k:Nat} {p:List Int} (h:Apart ps) (hp:p.Nodup) (D:∀x∈p,∀i,i≠k->x∉ps.getD i []):Apart (ps.set k p):=by
 refine ⟨fun i=>?_,fun i j x o d=>?_⟩
 ·rw [AT]
  split
  ·exact hp
  ·exact h.1 i
 ·rw [AT] at o d
  split at o
  ·split at d
   ·omega
   ·rename_i E G
    by_cases B:j=k
    ·subst B;omega
    ·exact absurd d (D x o j B)
  ·split at d
   ·rename_i E G
    by_cases z:i=k
    ·subst z;omega
    ·exact absurd o (D x d i z)
   ·exact h.2 i j x o d
theorem Apart.map {ps:List (List Int)} {l:List Nat} (h:Apart ps) (G:l.Nodup):Apart (l.map (ps.getD · [])):=by
 have key:∀i,(l.map (ps.getD · [])).getD i []=match l[i]? with | some k=>ps.getD k [] | none=>[]:=fun i=>by
  rw [Dp,Ea]
  cases l[i]? <;> rfl
 refine ⟨fun i=>?_,fun i j x z B=>?_⟩
 ·rw [key]
  cases l[i]? with
  | none=>exact List.nodup_nil
  | some k=>exact h.1 k
 ·rw [key] at z B
  cases d:l[i]? with
  | none=>rw [d] at z;cases z
  | some k=>cases o:l[j]? with
   | none=>rw [o] at B;cases B
   | some k'=>
    rw [d] at z;rw [o] at B;have e:=h.2 k k' x z B;subst e;obtain ⟨D,e1⟩:=Em.1 d;obtain ⟨E,e3⟩:=Em.1 o;rcases Nat.lt_trichotomy i j with h4 | h4 | h4
    ·exact absurd (e1.trans e3.symm) (List.pairwise_iff_getElem.1 (List.nodup_iff_pairwise_ne.1 G) i j D E h4)
    ·exact h4
    ·exact absurd (e3.trans e1.symm) (List.pairwise_iff_getElem.1 (List.nodup_iff_pairwise_ne.1 G) j i E D h4)
structure PathT (m:MZ) (t:Nat) (p:List Int):Prop where
 ne:p≠[]
 hd:p.getD 0 0∈(m.tasks.getD t ([],[])).1
 lt:p.getD (p.length - 1) 0∈(m.tasks.getD t ([],[])).2
 rg:∀x∈p,0<=x/\x<m.n
 fr:∀x∈p,zf m t x=true
 ch:∀(i:Nat) x y,p[i]?=some x->p[i+1]?=some y->y∈zg m x
theorem pathB_iff {p pre:List Int}:pathB m t p pre=true↔PathT m t p/\p.Nodup/\∀x∈p,x∉pre:=by
 have gk:∀{k:Nat} (d:k<p.length),p.getD k 0=p[k]:=fun d=>by rw [Dp,Do d,DW]
 constructor
 ·intro h;unfold pathB at h;simp only [DD,Bool.not_eq_true',DP,DB,Ev,Es] at h;obtain ⟨h0,D,K,E⟩:=h
  have z:∀k (d:k<p.length),(0<=p[k]/\p[k]<m.n)/\p[k]∉pre++p.take k/\zf m t p[k]=true/\(k=0\/p[k]∈zg m (p.getD (k - 1) 0)):=fun k d=>by
   have:=E k d;unfold nodeB at this;rw [gk d] at this;simp only [DD,Et,Bool.not_eq_true',DP,DB] at this;exact ⟨⟨this.1,this.2.1⟩,this.2.2.1,this.2.2.2.1,this.2.2.2.2⟩
  refine ⟨⟨h0,D,K,fun x o=>?_,fun x o=>?_,fun i x y o O=>?_⟩,?_,fun x o hp=>?_⟩
  ·obtain ⟨k,d,rfl⟩:=DX o;exact (z k d).1
  ·obtain ⟨k,d,rfl⟩:=DX o;exact (z k d).2.2.1
  ·obtain ⟨B,rfl⟩:=Em.1 o;obtain ⟨I,rfl⟩:=Em.1 O;rcases (z _ I).2.2.2 with h5 | h5
   ·omega
   ·rw [Nat.add_sub_cancel,gk B] at h5;exact h5
  ·rw [List.nodup_iff_pairwise_ne,List.pairwise_iff_getElem];intro i j B I L e;refine (z j I).2.1 (List.mem_append_right _ ?_);rw [<-e];exact List.mem_iff_getElem.2 ⟨i,by rw [Ej];omega,by rw [List.getElem_take]⟩
  ·obtain ⟨k,d,rfl⟩:=DX o;exact (z k d).2.1 (List.mem_append_left _ hp)
 ·rintro ⟨h,M,hp⟩;refine pathB_ok h.ne h.hd h.lt fun k d=>?_
  have hm:=Dr d;have J:=h.rg _ hm;unfold nodeB;rw [gk d,Du J.1,Du J.2,h.fr _ hm]
  have D:p[k]∉pre++p.take k:=fun hc=>by
   rcases Eg.1 hc with hc | hc
   ·exact hp _ hm hc
   ·obtain ⟨i,B,e⟩:=DX hc;rw [List.getElem_take] at e;have G:i<k:=by rw [Ej] at B;omega
    exact List.pairwise_iff_getElem.1 (List.nodup_iff_pairwise_ne.1 M) i k (by omega) d G e
  rw [Dv D];rcases Ec k with rfl | h0
  ·rfl
  ·have E:=h.ch (k - 1) _ _ (Do (by omega)) (by rw [show k - 1+1=k by omega];exact Do d);rw [gk (show k - 1<p.length by omega),Du E];simp
theorem BP:rightB m ps=true↔AS m=0/\ps.length=m.tasks.length/\(∀t,t<ps.length->PathT m t (ps.getD t []))/\Apart ps:=by
 constructor
 ·intro h;unfold rightB at h;simp only [DD,DB,Ev,Es,pathB_iff] at h;obtain ⟨h0,B,o⟩:=h;refine ⟨h0,B,fun t ht=>(o t ht).1,fun i=>?_,fun i j x d D=>?_⟩
  ·by_cases d:i<ps.length
   ·exact (o i d).2.1
   ·rw [Dp,DL (by omega)];exact List.nodup_nil
  ·have lt:∀{i:Nat},x∈ps.getD i []->i<ps.length:=fun {i} z=>by
    by_cases d:i<ps.length
    ·exact d
    ·rw [Dp,DL (by omega)] at z;cases z
   rcases Nat.lt_trichotomy i j with h4 | h4 | h4
   ·exact absurd (Cu.2 ⟨i,h4,d⟩) ((o j (lt D)).2.2 x D)
   ·exact h4
   ·exact absurd (Cu.2 ⟨j,h4,D⟩) ((o i (lt d)).2.2 x d)
 ·rintro ⟨h0,B,o,G⟩;refine rightB_ok h0 B fun t ht=>pathB_iff.2 ⟨o t ht,G.1 t,fun x z hp=>?_⟩
  obtain ⟨i,d,E⟩:=Cu.1 hp;have:=G.2 i t x E z;omega
theorem PathT.congr {m':MZ} {t':Nat} {p:List Int} (h:PathT m t p) (o:m'.w=m.w) (z:m'.h=m.h) (B:m'.l=m.l) (E:m'.up=m.up) (D:m'.tasks.getD t' ([],[])=m.tasks.getD t ([],[])) (G:m'.free.getD t' []=m.free.getD t []):PathT m' t' p:=by
 have K:m'.n=m.n:=by unfold MZ.n;rw [o,z,B]
 have d:∀x,zg m' x=zg m x:=fun x=>by unfold zg;rw [o,z,B,E]
 exact ⟨h.ne,by rw [D];exact h.hd,by rw [D];exact h.lt,by rw [K];exact h.rg,fun x d=>by unfold zf;rw [G];exact h.fr x d,fun i x y I J=>by rw [d];exact h.ch i x y I J⟩
theorem good_part (g:zE m) {l:List Nat} (B:l.length<=6) (ht:∀k∈l,k<m.tasks.length):zE ⟨m.w,m.h,m.l,l.map (m.free.getD · []),m.up,l.map (m.tasks.getD · ([],[]))⟩:=by
 have d:=g.dim;refine ⟨⟨d.w1,d.w2,d.h1,d.h2,d.l1,d.l2,d.n1,d.up⟩,by simp,fun f hf=>?_,by simpa using B,fun t z x D=>?_⟩
 ·obtain ⟨k,o,rfl⟩:=Er.1 hf;have:=ht k o;have E:=g.fl;exact g.fn _ (getD_mem (by omega))
 ·obtain ⟨k,o,rfl⟩:=Er.1 z;have:=ht k o;refine g.tn _ ?_ x D;rw [Dp,Do this];exact Dr this
theorem ownM_good (g:zE m) (d:k<m.tasks.length):zE (ownM m k):=good_part (l:=[k]) g (by simp) (by simpa using d)
theorem keepL_mem:k∈BT ps t↔k<ps.length/\AY ps t k=true:=by
 unfold BT;rw [Ep,Es]
theorem keepL_len (ps:List (List Int)) (t:Nat):(BT ps t).length<=ps.length:=Dt (DU _ _) (by simp)
theorem range_nodup:∀n:Nat,(List.range n).Nodup:=fun n=>List.nodup_range
theorem subM_good (g:zE m) (hp:ps.length=m.tasks.length) (t:Nat):zE (subM m ps t):=
 good_part g (by have:=keepL_len ps t;have:=g.tk;omega) (fun k d=>by have:=(keepL_mem.1 d).1;omega)
theorem AU:laidB m ps=true↔AS m=0/\ps.length=m.tasks.length/\(∀k,k<ps.length->ps.getD k []≠[]->PathT m k (ps.getD k []))/\Apart ps:=by
 unfold laidB;simp only [DD,DB,Ev,Es,apart_iff];constructor
 ·rintro ⟨h0,z,B,o⟩;refine ⟨h0,z,fun k D d=>?_,o⟩;have:=B k D;unfold laidK at this;rw [Dv d,Bool.false_or,BP] at this;exact (this.2.2.1 0 (by simp)).congr rfl rfl rfl rfl rfl rfl
 ·rintro ⟨h0,z,B,o⟩;refine ⟨h0,z,fun k D=>?_,o⟩;unfold laidK;by_cases d:ps.getD k []=[]
  ·rw [Du d,Bool.true_or]
  ·rw [Dv d,Bool.false_or,BP];refine ⟨good_chk (ownM_good (zE.of h0) (by omega)),by simp [ownM],fun t ht=>?_,fun i=>?_,fun i j x E G=>?_⟩
   ·have:t=0:=by simpa using ht
    subst this;exact (B k D d).congr rfl rfl rfl rfl rfl rfl
   ·cases i with
    | zero=>simpa using o.1 k
    | succ i=>simp
   ·cases i with
    | zero=>cases j with
     | zero=>rfl
     | succ j=>simp at G
    | succ i=>simp at E
theorem right_laid {qs:List (List Int)} (h0:AS m=0) (M:ps.length=m.tasks.length) (O:qs.length=ps.length) (I:∀k,k<ps.length->AY ps t k=false->qs.getD k []=[]) (h:rightB (subM m ps t) ((BT ps t).map (qs.getD · []))=true):
  laidB m qs=true/\∀k,k<ps.length->(qs.getD k []≠[]↔AY ps t k=true):=by
 obtain ⟨_,L,E,G⟩:=BP.1 h
 have at_:∀j (d:j<(BT ps t).length),((BT ps t).map (qs.getD · [])).getD j []=qs.getD (BT ps t)[j] []:=fun j d=>by
  rw [Dp,Ea,Do d];rfl
 have idx:∀k,k<ps.length->qs.getD k []≠[]->∃j,∃d:j<(BT ps t).length,(BT ps t)[j]=k:=fun k z o=>by
  have:k∈BT ps t:=keepL_mem.2 ⟨z,by cases B:AY ps t k with | true=>rfl | false=>exact absurd (I k z B) o⟩;obtain ⟨j,d,e⟩:=DX this;exact ⟨j,d,e⟩
 have lt:∀{i:Nat} {x:Int},x∈qs.getD i []->i<ps.length:=fun {i x} J=>by
  by_cases D:i<qs.length
  ·omega
  ·rw [Dp,DL (by omega)] at J;cases J
 refine ⟨AU.2 ⟨h0,by omega,fun k z o=>?_,fun i=>?_,fun i j x D d=>?_⟩,fun k z=>⟨fun o=>?_,fun B=>?_⟩⟩
 ·obtain ⟨j,d,e⟩:=idx k (by omega) o;have:=E j (by simpa using d);rw [at_ j d,e] at this;refine this.congr rfl rfl rfl rfl ?_ ?_
  ·show _=((BT ps t).map (m.tasks.getD · ([],[]))).getD j ([],[]);rw [Dp (l:=List.map _ _),Ea,Do d,e];rfl
  ·show _=((BT ps t).map (m.free.getD · [])).getD j [];rw [Dp (l:=List.map _ _),Ea,Do d,e];rfl
 ·by_cases o:qs.getD i []=[]
  ·rw [o];exact List.nodup_nil
  ·by_cases D:i<ps.length
   ·obtain ⟨j,d,e⟩:=idx i D o;have:=G.1 j
    rwa [at_ j d,e] at this
   ·rw [Dp,DL (by omega)];exact List.nodup_nil
 ·obtain ⟨a,K,ea⟩:=idx i (lt D) (fun e=>by rw [e] at D;cases D);obtain ⟨b,B,eb⟩:=idx j (lt d) (fun e=>by rw [e] at d;cases d);have:=G.2 a b x (by rw [at_ a K,ea];exact D) (by rw [at_ b B,eb];exact d);subst this;rw [<-ea,<-eb]
 ·cases B:AY ps t k with
  | true=>rfl
  | false=>exact absurd (I k z B) o
 ·intro e;have:k∈BT ps t:=keepL_mem.2 ⟨z,B⟩;obtain ⟨j,d,e2⟩:=DX this;have:=(E j (by simpa using d)).ne;rw [at_ j d,e2] at this;exact this e
structure PathR (m:MZ) (t:Nat) (p:List Int):Prop where
 hd:∀x,p.head?=some x->x∈(m.tasks.getD t ([],[])).1
 fr:∀x∈p,zf m t x=true
 nb:∀k x y,p[k]?=some x->p[k+1]?=some y->y∈zg m x
def FinP (m:MZ) (t:Nat) (p:List Int):Prop:=∃x,p.getLast?=some x/\x∈(m.tasks.getD t ([],[])).2
theorem PathR.nil (m:MZ) (t:Nat):PathR m t []:=⟨(fun x h=>by cases h),(fun x h=>by cases h),(fun k x y h=>by simp at h)⟩
theorem PathR.snoc {m:MZ} {t:Nat} {p:List Int} {n:Int} (h:PathR m t p) (hf:zf m t n=true) (h0:p=[]->n∈(m.tasks.getD t ([],[])).1) (z:∀x,p.getLast?=some x->n∈zg m x):PathR m t (p++[n]):=by
 refine ⟨fun x hx=>?_,fun x hx=>?_,fun k x y hx d=>?_⟩
 ·cases p with
  | nil=>
   have:n=x:=by simpa using hx
   subst this;exact h0 rfl
  | cons a p=>exact h.hd x (by simpa using hx)
 ·rcases Eg.1 hx with hx | hx
  ·exact h.fr x hx
  ·rw [DY] at hx;subst hx;exact hf
 ·rcases DO (k+1) p.length with hk | hk
  ·rw [Dw (by omega)] at hx;rw [Dw hk] at d;exact h.nb k x y hx d
  ·have o:k+1<(p++[n]).length:=by
    rcases DO (k+1) (p++[n]).length with h2 | h2
    ·exact h2
    ·rw [DL h2] at d;cases d
   have B:k+1=p.length:=by simp at o;omega
   rw [Dx (by omega),show k+1 - p.length=0 from by omega] at d;have:n=y:=by simpa using d
   subst this;rw [Dw (by omega)] at hx;refine z x ?_;rw [List.getLast?_eq_getElem?,show p.length - 1=k from by omega];exact hx
structure PsR (m:MZ) (ps:List (List Int)):Prop where
 one:∀t p,ps[t]?=some p->PathR m t p
 fin:∀t p,ps[t]?=some p->t+1<ps.length->FinP m t p
theorem cand_step (h:n∈Bu m ps us):zf m (ps.length - 1) n=true/\((ps.getD (ps.length - 1) [])=[]->n∈(m.tasks.getD (ps.length - 1) ([],[])).1)/\(∀x,(ps.getD (ps.length - 1) []).getLast?=some x->n∈zg m x):=by
 unfold Bu at h
 split at h
 ·cases h
 ·split at h
  ·rename_i o
   obtain ⟨B,d⟩:=Ep.1 h;simp only [DD] at d;exact ⟨d.1,fun _=>mem_sortL.1 (Db B),fun x D=>by rw [o] at D;cases D⟩
  ·rename_i x o
   obtain ⟨B,d⟩:=Ep.1 h;unfold zD at d;simp only [DD] at d;refine ⟨d.1.1.1,(fun h0=>by rw [h0] at o;cases o),fun y z=>?_⟩;rw [o] at z;injection z with z;subst z;exact B
theorem PsR.add (h:PsR m ps) (hp:0<ps.length) (J:n∈Bu m ps us):PsR m (Bo ps n):=by
 obtain ⟨E,z,B⟩:=cand_step J;obtain ⟨qs,p,rfl,he⟩:=addN_eq hp n;rw [he];have I:(qs++[p]).length - 1=qs.length:=by simp
 have G:(qs++[p]).getD qs.length []=p:=by simp
 rw [I] at E z B;rw [G] at z B;refine ⟨fun t q o=>?_,fun t q o ht=>?_⟩
 ·rcases DO t qs.length with d | hge
  ·rw [Dw d] at o;exact h.one t q (by rw [Dw d];exact o)
  ·have D:t=qs.length:=by
    rcases DO t (qs++[p++[n]]).length with h4 | h4
    ·simp at h4;omega
    ·rw [DL h4] at o;cases o
   subst D;rw [Dx (Dq _),Nat.sub_self] at o;have:p++[n]=q:=by simpa using o
   subst this;exact (h.one qs.length p (by simp)).snoc E z B
 ·have d:t<qs.length:=by simp at ht;omega
  rw [Dw d] at o;exact h.fin t q (by rw [Dw d];exact o) (by simp;omega)
theorem PsR.with {m:MZ} {ps:List (List Int)} {us:List Int} {n:Int} (h:PsR m ps) (hp:0<ps.length) (E:n∈Bu m ps us):PsR m (AW m ps n):=by
 have o:=h.add hp E;unfold AW
 split
 ·rename_i hf
  have d:(Bo ps n).length=ps.length:=Cc
  have hF:∀t p,(Bo ps n)[t]?=some p->t+1=ps.length->FinP m t p:=fun t p ht he=>by
   have h2:=hf.1;unfold finB at h2;rw [d,show ps.length - 1=t from by omega,Dp,ht] at h2;simp only [DW] at h2
   split at h2
   ·cases h2
   ·rename_i x G
    exact ⟨x,G,Ew h2⟩
  refine ⟨fun t p ht=>?_,fun t p ht z=>?_⟩
  ·rcases DO t (Bo ps n).length with h2 | h2
   ·rw [Dw h2] at ht;exact o.one t p ht
   ·rw [Dx h2] at ht
    have B:p=[]:=by
     cases D:t - (Bo ps n).length with
     | zero=>rw [D] at ht;simpa using ht.symm
     | succ j=>rw [D] at ht;simp at ht
    subst B;exact PathR.nil m t
  ·have h2:t<(Bo ps n).length:=by simp at z;omega
   rw [Dw h2] at ht;rcases DO (t+1) (Bo ps n).length with h3 | h3
   ·exact o.fin t p ht h3
   ·exact hF t p ht (by omega)
 ·exact o
theorem zr.psR (h:zr m ch):PsR m (zC m ch):=by
 induction h with
 | nil=>
  rw [psOf_nil];unfold ps0
  split
  ·exact ⟨fun t p h=>by simp at h,fun t p h=>by simp at h⟩
  ·refine ⟨fun t p h=>?_,fun t p h o=>by simp at o⟩
   match t,h with
   | 0,h=>
    have:p=[]:=by simpa using h.symm
    subst this;exact PathR.nil m 0
 | @snoc ch n h d ih=>
  rw [CC];exact ih.with (h.psOk.pn (Bq (BO d))) d
theorem zr.all (h:zr m ch) (d:zL m ch=true):(zC m ch).length=m.tasks.length/\(∀t p,(zC m ch)[t]?=some p->PathR m t p/\FinP m t p):=by
 have z:=h.psR;have B:=h.psOk;unfold zL cmpB at d;rw [Et,DB,DD,DB] at d;rcases d with h0 | ⟨h0,o⟩
 ·have:=B.pl;refine ⟨by omega,fun t p ht=>?_⟩;rw [DL (by omega)] at ht;cases ht
 ·refine ⟨h0,fun t p ht=>⟨z.one t p ht,?_⟩⟩
  have D:t<(zC m ch).length:=by
   rcases DO t (zC m ch).length with h2 | h2
   ·exact h2
   ·rw [DL h2] at ht;cases ht
  rcases DO (t+1) (zC m ch).length with h2 | h2
  ·exact z.fin t p ht h2
  ·unfold finB at o;rw [show (zC m ch).length - 1=t from by omega,Dp,ht] at o;simp only [DW] at o
   split at o
   ·cases o
   ·rename_i x E
    exact ⟨x,E,Ew o⟩
end
end Go.Proofs.YtnmkmhpgnpojbaaGreatDoor
