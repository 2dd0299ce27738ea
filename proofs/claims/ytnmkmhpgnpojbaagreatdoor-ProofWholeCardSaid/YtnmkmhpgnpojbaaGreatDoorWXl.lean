import Derived.Test.YtnmkmhpgnpojbaaGreatDoorWXi
import Derived.KernelRfl
set_option linter.unusedVariables false
set_option linter.unusedSimpArgs false
set_option maxRecDepth 100000
set_option maxHeartbeats 16000000
namespace Go.Proofs.YtnmkmhpgnpojbaaGreatDoor
variable {a d x z:Int} {fr:Int->Bool} {F:List (Int×Int)} {S acc tg:List Int} {k:Nat}
section
open Go.RowKit
def Bl (m:MZ) (t:Nat) (us acc:List Int) (z:Int):List Int:=if (zf m t z && !decide (z∈us) && !decide (z∈acc))=true then acc++[z] else acc
def growX (m:MZ) (t:Nat) (us S:List Int):List Int:=(S.flatMap (zg m)).foldl (Bl m t us) S
def growN (m:MZ) (t:Nat) (us:List Int):Nat->List Int->List Int
 | 0,S=>S
 | k+1,S=>growN m t us k (growX m t us S)
def start (m:MZ) (f:List Int):List Int:=f.foldl (fun acc x=>if (decide (0<=x) && decide (x<m.n) && !decide (x∈acc))=true then acc++[x] else acc) []
def reachX (m:MZ) (t:Nat) (f us:List Int):List Int:=growN m t us (m.n.toNat+1) (start m f)
section
variable {m:MZ} {t:Nat} {us f:List Int}
structure GK (m:MZ) (t:Nat) (f us S:List Int):Prop where
 nd:S.Nodup
 rg:∀x∈S,0<=x/\x<m.n
 rp:∀x∈S,RP m t f us x
theorem addIf_sub (acc:List Int) (z:Int):∀x∈acc,x∈Bl m t us acc z:=by
 intro x o;unfold Bl
 split
 ·exact List.mem_append_left _ o
 ·exact o
theorem addIf_len (acc:List Int) (z:Int):acc.length<=(Bl m t us acc z).length:=by
 unfold Bl
 split <;> simp
theorem addIf_gk (h:GK m t f us acc) (h0:0<=z/\z<m.n) (D:zf m t z=true->z∉us->RP m t f us z):GK m t f us (Bl m t us acc z):=by
 unfold Bl
 split
 ·rename_i o
  simp only [DD,Bool.not_eq_true',DP] at o;refine ⟨?_,fun x hx=>?_,fun x hx=>?_⟩
  ·rw [List.nodup_append];refine ⟨h.nd,by simp,fun a E b B=>?_⟩;rw [DY] at B;rintro rfl;subst B;exact o.2 E
  ·rcases Eg.1 hx with hx | hx
   ·exact h.rg x hx
   ·rw [DY] at hx;subst hx;exact h0
  ·rcases Eg.1 hx with hx | hx
   ·exact h.rp x hx
   ·rw [DY] at hx;subst hx;exact D o.1.1 o.1.2
 ·exact h
theorem fold_sub:∀(l acc:List Int),∀x∈acc,x∈l.foldl (Bl m t us) acc
 | [],acc,x,o=>o
 | z :: l,acc,x,o=>fold_sub l (Bl m t us acc z) x (addIf_sub acc z x o)
theorem fold_len:∀(l acc:List Int),acc.length<=(l.foldl (Bl m t us) acc).length
 | [],acc=>Dq _
 | z :: l,acc=>Dt (addIf_len acc z) (fold_len l _)
theorem fold_gk:∀(l acc:List Int),GK m t f us acc->(∀z∈l,(0<=z/\z<m.n)/\(zf m t z=true->z∉us->RP m t f us z))->GK m t f us (l.foldl (Bl m t us) acc)
 | [],acc,h,_=>h
 | z :: l,acc,h,o=>fold_gk l _ (addIf_gk h (o z (Ed ..)).1 (o z (Ed ..)).2) (fun x B=>o x (DM _ B))
theorem grow_gk (d:Dim m) (h:GK m t f us S):GK m t f us (growX m t us S):=by
 refine fold_gk _ _ h fun z I=>?_
 obtain ⟨y,D,B⟩:=List.mem_flatMap.1 I;have o:=h.rg y D;exact ⟨Ba d o.1 o.2 B,fun E G=>(h.rp y D).step B E G⟩
def Closed (m:MZ) (t:Nat) (us S:List Int):Prop:=∀y∈S,∀z∈zg m y,zf m t z=true->z∉us->z∈S
theorem addIf_eq (h:zf m t z=true->z∉us->z∈acc):Bl m t us acc z=acc:=by
 unfold Bl;rw [if_neg];intro o;simp only [DD,Bool.not_eq_true',DP] at o;exact o.2 (h o.1.1 o.1.2)
theorem fold_eq:∀(l acc:List Int),(∀z∈l,zf m t z=true->z∉us->z∈acc)->l.foldl (Bl m t us) acc=acc
 | [],acc,_=>rfl
 | z :: l,acc,h=>by
  rw [List.foldl_cons,addIf_eq (h z (Ed ..))];exact fold_eq l acc (fun x o=>h x (DM _ o))
theorem grow_closed (h:Closed m t us S):growX m t us S=S:=
 fold_eq _ _ fun z D=>by
  obtain ⟨y,B,o⟩:=List.mem_flatMap.1 D;exact h y B z o
theorem fold_more:∀(l acc:List Int),(∃z∈l,zf m t z=true/\z∉us/\z∉acc)->acc.length<(l.foldl (Bl m t us) acc).length
 | z :: l,acc,⟨x,hx,B,D,E⟩=>by
  rw [List.foldl_cons];rcases Ef.1 hx with rfl | hx
  ·have:(Bl m t us acc x).length=acc.length+1:=by
    unfold Bl;rw [if_pos (by simp [B,D,E])];simp
   have:=fold_len (m:=m) (t:=t) (us:=us) l (Bl m t us acc x);omega
  ·by_cases o:x∈Bl m t us acc z
   ·have G:acc.length<(Bl m t us acc z).length:=by
     unfold Bl at o⊢
     split
     ·simp
     ·rename_i I;rw [if_neg I] at o;exact absurd o E
    exact DT G (fold_len l _)
   ·exact Nat.lt_of_le_of_lt (addIf_len acc z) (fold_more l _ ⟨x,hx,B,D,o⟩)
theorem growN_gk (d:Dim m):∀(k:Nat) {S:List Int},GK m t f us S->GK m t f us (growN m t us k S)
 | 0,S,h=>h
 | k+1,S,h=>growN_gk d k (grow_gk d h)
theorem growN_sub:∀(k:Nat) (S:List Int),∀x∈S,x∈growN m t us k S
 | 0,S,x,o=>o
 | k+1,S,x,o=>growN_sub k _ x (fold_sub _ _ x o)
theorem growN_closed {S:List Int} (h:Closed m t us S):∀k,growN m t us k S=S
 | 0=>rfl
 | k+1=>by unfold growN;rw [grow_closed h];exact growN_closed h k
theorem growN_or:∀(k:Nat) (S:List Int),Closed m t us (growN m t us k S)\/S.length+k<=(growN m t us k S).length
 | 0,S=>.inr (Dq _)
 | k+1,S=>by
  by_cases h:Closed m t us S
  ·left
   rw [growN_closed h];exact h
  ·have o:S.length<(growX m t us S).length:=by
    refine fold_more _ _ ?_;unfold Closed at h;simp only [Classical.not_forall] at h;obtain ⟨y,D,z,E,o,h2,B⟩:=h;exact ⟨z,List.mem_flatMap.2 ⟨y,D,E⟩,o,h2,B⟩
   rcases growN_or k (growX m t us S) with h2 | h2
   ·exact .inl h2
   ·right
    unfold growN;omega
theorem start_gk (m:MZ) (t:Nat) (us f:List Int):GK m t f us (start m f)/\∀x∈f,0<=x->x<m.n->x∈start m f:=by
 have key:∀(l acc:List Int),(∀x∈l,x∈f)->GK m t f us acc->GK m t f us (l.foldl (fun acc x=>if (decide (0<=x) && decide (x<m.n) && !decide (x∈acc))=true then acc++[x] else acc) acc)/\
   (∀x∈acc,x∈l.foldl (fun acc x=>if (decide (0<=x) && decide (x<m.n) && !decide (x∈acc))=true then acc++[x] else acc) acc)/\∀x∈l,0<=x->x<m.n->x∈l.foldl (fun acc x=>if (decide (0<=x) && decide (x<m.n) && !decide (x∈acc))=true then acc++[x] else acc) acc:=by
  intro l
  induction l with
  | nil=>intro acc _ h;exact ⟨h,fun x hx=>hx,fun x hx=>by cases hx⟩
  | cons z l ih=>
   intro acc G h;rw [List.foldl_cons];by_cases o:(decide (0<=z) && decide (z<m.n) && !decide (z∈acc))=true
   ·rw [if_pos o];simp only [DD,Bool.not_eq_true',DP,DB] at o
    obtain ⟨D,B,E⟩:=ih (acc++[z]) (fun x hx=>G x (DM _ hx)) ⟨by
     rw [List.nodup_append];refine ⟨h.nd,by simp,fun a J b I=>?_⟩;rw [DY] at I;rintro rfl;subst I;exact o.2 J,fun x hx=>by
     rcases Eg.1 hx with hx | hx
     ·exact h.rg x hx
     ·rw [DY] at hx;subst hx;exact o.1,fun x hx=>by
     rcases Eg.1 hx with hx | hx
     ·exact h.rp x hx
     ·rw [DY] at hx;subst hx;exact RP.base (G x (Ed ..)) o.1.1 o.1.2⟩
    refine ⟨D,fun x hx=>B x (List.mem_append_left _ hx),fun x hx a b=>?_⟩;rcases Ef.1 hx with rfl | hx
    ·exact B x (by simp)
    ·exact E x hx a b
   ·rw [if_neg o];obtain ⟨D,B,E⟩:=ih acc (fun x hx=>G x (DM _ hx)) h;refine ⟨D,B,fun x hx a b=>?_⟩;rcases Ef.1 hx with rfl | hx
    ·refine B x ?_;simp only [DD,Bool.not_eq_true',DP,DB] at o;by_cases hm:x∈acc
     ·exact hm
     ·exact absurd ⟨⟨a,b⟩,hm⟩ o
    ·exact E x hx a b
 have h:=key f [] (fun _ h=>h) ⟨List.nodup_nil,fun x hx=>absurd hx Eo,fun x hx=>absurd hx Eo⟩;exact ⟨h.1,h.2.2⟩
theorem mem_reachX (d:Dim m) (x:Int):x∈reachX m t f us↔RP m t f us x:=by
 have E:=start_gk m t us f;have B:=growN_gk (t:=t) (f:=f) (us:=us) d (m.n.toNat+1) E.1
 have I:Closed m t us (reachX m t f us):=by
  rcases growN_or (m:=m) (t:=t) (us:=us) (m.n.toNat+1) (start m f) with h | h
  ·exact h
  ·have:=Bx B.nd m.n B.rg;omega
 constructor
 ·exact fun h=>B.rp x h
 ·intro h;exact h (fun x=>x∈reachX m t f us) (fun y D h0 o=>growN_sub _ _ y (E.2 y D h0 o)) (fun y z D J o G=>I y D z J o G)
end
theorem reachL_x {m:MZ} (d:Dim m) (t:Nat) (f us:List Int):Bh m t f us=((List.range m.n.toNat).map Int.ofNat).filter fun x=>decide (x∈reachX m t f us):=by
 rw [reachL_of (fun x=>mem_reachX d x)]
theorem emod_pred {m:Int} (hm:0<m) (h:0<a % m):(a - 1) % m=a % m - 1:=by
 have B:=Int.emod_add_mul_ediv a m;have D:=Int.emod_lt_of_pos a hm;have o:a - 1=(a % m - 1)+m*(a / m):=by omega
 rw [o,Int.add_mul_emod_self_left,Int.emod_eq_of_lt (by omega) (by omega)]
theorem emod_succ {m:Int} (hm:0<m) (h:a % m+1<m):(a+1) % m=a % m+1:=by
 have B:=Int.emod_add_mul_ediv a m;have D:=Int.emod_nonneg a (show m≠0 by omega);have o:a+1=(a % m+1)+m*(a / m):=by omega
 rw [o,Int.add_mul_emod_self_left,Int.emod_eq_of_lt (by omega) (by omega)]
theorem ediv_pred {m:Int} (hm:0<m):(a - m) / m=a / m - 1:=by
 have h:a - m=a+(-1)*m:=by omega
 rw [h,Int.add_mul_ediv_right _ _ (by omega)];omega
theorem ediv_succ {m:Int} (hm:0<m):(a+m) / m=a / m+1:=by
 have h:a+m=a+1*m:=by omega
 rw [h,Int.add_mul_ediv_right _ _ (by omega)]
theorem nextL_symm {m:MZ} (d:Dim m) {k:Int} (h0:0<=k) (o:k<m.n) (h:x∈zg m k):k∈zg m x:=by
 have B:=d.w1;have hh:=d.h1;obtain ⟨l1,l2⟩:=d.layer;unfold MZ.n at o;simp only [zg,mem_ap,DD,DB,Eo,false_or] at h⊢;rcases h with ((((( ⟨⟨a,b⟩,rfl⟩) | ⟨a,rfl⟩) | ⟨a,rfl⟩) | ⟨a,rfl⟩) | ⟨a,rfl⟩) | ⟨⟨a,b⟩,rfl⟩
 ·refine .inr ⟨⟨by omega,b⟩,by omega⟩
 ·refine .inl (.inr ⟨?_,by omega⟩);rw [ediv_pred (by omega),emod_pred (by omega) a];have:=Int.emod_lt_of_pos (k / m.w) (show 0<m.h by omega);omega
 ·refine .inl (.inl (.inr ⟨?_,by omega⟩));rw [emod_pred (by omega) a];have:=Int.emod_lt_of_pos k (show 0<m.w by omega);omega
 ·refine .inl (.inl (.inl (.inr ⟨?_,by omega⟩)));rw [emod_succ (by omega) a];have:=Int.emod_nonneg k (show m.w≠0 by omega);omega
 ·refine .inl (.inl (.inl (.inl (.inr ⟨?_,by omega⟩))));rw [ediv_succ (by omega),emod_succ (by omega) a];have:=Int.emod_nonneg (k / m.w) (show m.h≠0 by omega);omega
 ·refine .inl (.inl (.inl (.inl (.inl ⟨⟨by omega,?_⟩,by omega⟩))));rw [show k+m.w*m.h - m.w*m.h=k from by omega];exact b
theorem ap_pw {c:Bool} {l:List Int} (h:l.Pairwise (·<·)) (D:c=true->∀y∈l,y<x):(ap c x l).Pairwise (·<·):=by
 unfold ap;cases c
 ·simpa using h
 ·simp only [if_pos];rw [List.pairwise_append];refine ⟨h,by simp,fun a B b o=>?_⟩;rw [DY] at o;subst o;exact D rfl a B
theorem nextL_pw {m:MZ} (d:Dim m) (k:Int):(zg m k).Pairwise (·<·):=by
 have K:=d.w1;have hh:=d.h1
 have hW:m.w<=m.w*m.h:=by
  have:=Int.mul_le_mul_of_nonneg_left hh (show 0<=m.w by omega);omega
 have D:∀{j:Int},0<j % m.h->m.w<m.w*m.h:=by
  intro j I;have E:=Int.emod_lt_of_pos j (show 0<m.h by omega);have:=Int.mul_le_mul_of_nonneg_left (show 2<=m.h by omega) (show 0<=m.w by omega);omega
 have B:∀{j:Int},j % m.h+1<m.h->m.w<m.w*m.h:=by
  intro j I;have E:=Int.emod_nonneg j (show m.h≠0 by omega);have:=Int.mul_le_mul_of_nonneg_left (show 2<=m.h by omega) (show 0<=m.w by omega);omega
 unfold zg;refine ap_pw (ap_pw (ap_pw (ap_pw (ap_pw (ap_pw List.Pairwise.nil ?_) ?_) ?_) ?_) ?_) ?_
 ·intro _ y hy;cases hy
 ·intro o y hy;simp only [mem_ap,DD,DB,Eo,false_or] at o hy;have:=D o;omega
 ·intro o y hy;simp only [mem_ap,DD,DB,Eo,false_or] at o hy;have J:=Int.emod_lt_of_pos k (show 0<m.w by omega);rcases hy with hy | hy <;> omega
 ·intro o y hy;simp only [mem_ap,DD,DB,Eo,false_or] at o hy;rcases hy with (hy | hy) | hy <;> omega
 ·intro o y hy;simp only [mem_ap,DD,DB,Eo,false_or] at o hy;have G:=Int.emod_nonneg k (show m.w≠0 by omega);rcases hy with ((hy | hy) | hy) | hy <;> omega
 ·intro o y hy;simp only [mem_ap,DD,DB,Eo,false_or] at o hy;have G:=Int.emod_nonneg k (show m.w≠0 by omega);rcases hy with (((hy | hy) | hy) | hy) | hy
  ·omega
  ·omega
  ·omega
  ·omega
  ·have:=B hy.1;omega
theorem reachL_pw (m:MZ) (t:Nat) (f us:List Int):(Bh m t f us).Pairwise (·<·):=by
 unfold Bh;apply List.Pairwise.filter;rw [List.pairwise_map];exact List.Pairwise.imp (fun h=>by simpa using h) List.pairwise_lt_range
theorem good_chk {m:MZ} (g:zE m):AS m=0:=by
 have d:=g.dim
 have D:[m.w,m.h,m.l].any side=false:=by
  have h1:=d.w1;have o:=d.w2;have E:=d.h1;have G:=d.h2;have I:=d.l1;have J:=d.l2;simp [side];omega
 unfold AS;rw [D,if_neg (by simp),if_neg (by have:=d.n1;have:=g.tk;unfold MZ.n;omega),if_neg,if_neg]
 ·intro h;obtain ⟨t,ht,h1⟩:=Eu.1 h;rw [Et] at h1;rcases h1 with h1 | h1
  ·obtain ⟨x,B,o⟩:=Eu.1 h1;have:=g.tn t ht x (.inl B);simp [Ae] at o;omega
  ·obtain ⟨x,B,o⟩:=Eu.1 h1;have:=g.tn t ht x (.inr B);simp [Ae] at o;omega
 ·intro h;rcases h with h | h | h
  ·exact h g.fl
  ·exact h d.up
  ·obtain ⟨f,hf,o⟩:=Eu.1 h;have:=g.fn f hf;simp at o;exact o this
def addAll (fr:Int->Bool) (d:Int):List Int->List (Int×Int)->List (Int×Int)
 | [],F=>F
 | x :: l,F=>addAll fr d l (if (F.lookup x).isNone && fr x then F++[(x,d)] else F)
def bfs (m:MZ) (fr:Int->Bool):Nat->Nat->List (Int×Int)->List (Int×Int)
 | 0,_,F=>F
 | f+1,k,F=>match F[k]? with
  | none=>F
  | some p=>bfs m fr f (k+1) (addAll fr (p.2+1) (zg m p.1) F)
theorem lookup_none:F.lookup x=none↔∀p∈F,p.1≠x:=by
 induction F with
 | nil=>simp
 | cons a F ih=>
  obtain ⟨y,d⟩:=a;rw [List.lookup_cons];by_cases h:x=y
  ·subst h;simp
  ·have B:(x==y)=false:=by rw [DE];exact h
   rw [B];simp only [ih,Ef,forall_eq_or_imp];constructor
   ·intro o;exact ⟨fun e=>h e.symm,o⟩
   ·exact fun o=>o.2
theorem AZ (h:F.lookup x=some d):(x,d)∈F:=by
 induction F with
 | nil=>cases h
 | cons a F ih=>
  obtain ⟨y,e⟩:=a;rw [List.lookup_cons] at h;by_cases o:x=y
  ·subst o;simp at h;subst h;exact Ed ..
  ·have B:(x==y)=false:=by rw [DE];exact o
   rw [B] at h;exact DM _ (ih h)
theorem lookup_of (G:(F.map Prod.fst).Nodup) (h:(x,d)∈F):F.lookup x=some d:=by
 cases B:F.lookup x with
 | none=>exact absurd rfl (lookup_none.1 B _ h)
 | some e=>
  have I:=AZ B;congr 1;rw [List.nodup_iff_pairwise_ne,List.pairwise_map] at G;apply Decidable.byContradiction;intro o;obtain ⟨i,D,ei⟩:=DX h;obtain ⟨j,E,ej⟩:=DX I;have hp:=List.pairwise_iff_getElem.1 G;rcases Nat.lt_trichotomy i j with h4 | h4 | h4
  ·exact hp i j D E h4 (by rw [ei,ej])
  ·subst h4;rw [ei] at ej;injection ej with _ e2;exact o e2.symm
  ·exact hp j i E D h4 (by rw [ei,ej])
structure DFI (m:MZ) (fr:Int->Bool) (tg:List Int) (k:Nat) (F:List (Int×Int)):Prop where
 nd:(F.map Prod.fst).Nodup
 rg:∀p∈F,(0<=p.1/\p.1<m.n)/\fr p.1=true/\0<=p.2
 bk:∀p∈F,(p.2=0/\p.1∈tg)\/∃q∈F,p.1∈zg m q.1/\p.2=q.2+1
 mono:F.Pairwise (fun a b=>a.2<=b.2)
 near:∀i j:Nat,k<=i->∀p q,F[i]?=some p->F[j]?=some q->q.2<=p.2+1
 cl:∀i,i<k->∀p,F[i]?=some p->∀x∈zg m p.1,fr x=true->∃q∈F,q.1=x/\q.2<=p.2+1
 ini:∀x∈tg,fr x=true->(x,(0:Int))∈F
theorem Bj (fr:Int->Bool) (d:Int):∀(l:List Int) (F:List (Int×Int)),∃G,addAll fr d l F=F++G/\(∀p∈G,p.2=d/\p.1∈l/\fr p.1=true)/\((F.map Prod.fst).Nodup->((F++G).map Prod.fst).Nodup)/\∀x∈l,fr x=true->∃q∈F++G,q.1=x
 | [],F=>⟨[],by simp [addAll],fun p hp=>(by cases hp),fun h=>(by simpa using h),fun x Q=>(by cases Q)⟩
 | x :: l,F=>by
  unfold addAll;by_cases o:((F.lookup x).isNone && fr x)=true
  ·rw [if_pos o];rw [DD,Option.isNone_iff_eq_none] at o;obtain ⟨G,B,D,E,I⟩:=Bj fr d l (F++[(x,d)]);refine ⟨(x,d) :: G,by rw [B];simp,fun p hp=>?_,fun O=>?_,fun y hy hf=>?_⟩
   ·rcases Ef.1 hp with rfl | hp
    ·exact ⟨rfl,Ed ..,o.2⟩
    ·obtain ⟨a,b,c⟩:=D p hp;exact ⟨a,DM _ b,c⟩
   ·have:(F++(x,d) :: G)=(F++[(x,d)])++G:=by simp
    rw [this];apply E;rw [Ei,List.nodup_append];refine ⟨O,by simp,fun a M b K e=>?_⟩;subst e;simp at K;subst K;obtain ⟨p,hp,e⟩:=Er.1 M;exact lookup_none.1 o.1 p hp e
   ·have e:(F++(x,d) :: G)=(F++[(x,d)])++G:=by simp
    rcases Ef.1 hy with rfl | hy
    ·exact ⟨(y,d),by simp,rfl⟩
    ·rw [e];exact I y hy hf
  ·rw [if_neg o];obtain ⟨G,B,D,E,I⟩:=Bj fr d l F;refine ⟨G,B,fun p hp=>?_,E,fun y hy hf=>?_⟩
   ·obtain ⟨a,b,c⟩:=D p hp;exact ⟨a,DM _ b,c⟩
   ·rcases Ef.1 hy with rfl | hy
    ·have L:F.lookup y≠none:=fun e=>o (by rw [e,hf];rfl)
     cases J:F.lookup y with
     | none=>exact absurd J L
     | some e=>exact ⟨_,List.mem_append_left _ (AZ J),rfl⟩
    ·exact I y hy hf
theorem DFI.start {m:MZ} (L:∀x∈tg,0<=x/\x<m.n):DFI m fr tg 0 (addAll fr 0 tg []):=by
 obtain ⟨G,E,o,I,J⟩:=Bj fr 0 tg [];rw [E,List.nil_append];refine ⟨by simpa using I List.nodup_nil,fun p hp=>?_,fun p hp=>.inl ⟨(o p hp).1,(o p hp).2.1⟩,?_,fun i j _ p q hp B=>?_,fun i D=>by omega,fun x M hf=>?_⟩
 ·obtain ⟨a,b,c⟩:=o p hp;exact ⟨L _ b,c,by omega⟩
 ·rw [List.pairwise_iff_getElem];intro i j D K _;have:=(o _ (Dr D)).1;have:=(o _ (Dr K)).1;omega
 ·have:=(o p (List.mem_of_getElem? hp)).1;have:=(o q (List.mem_of_getElem? B)).1;omega
 ·obtain ⟨q,B,e⟩:=J x M hf;rw [List.nil_append] at B;have:=(o q B).1;obtain ⟨a,b⟩:=q;simp only at e this;subst e this;exact B
theorem DFI.step {m:MZ} (d:Dim m) (h:DFI m fr tg k F) {p:Int×Int} (hp:F[k]?=some p):DFI m fr tg (k+1) (addAll fr (p.2+1) (zg m p.1) F):=by
 obtain ⟨G,Q,D,U,V⟩:=Bj fr (p.2+1) (zg m p.1) F;rw [Q];have E:=List.mem_of_getElem? hp;have I:=h.rg p E
 have hk:k<F.length:=by
  rcases DO k F.length with hk | hk
  ·exact hk
  ·rw [DL hk] at hp;cases hp
 have B:∀q∈F++G,q.2<=p.2+1:=fun q hq=>by
  rcases Eg.1 hq with hq | hq
  ·obtain ⟨j,M⟩:=List.getElem?_of_mem hq;exact h.near k j (Dq _) p q hp M
  ·have:=(D q hq).1;omega
 refine ⟨U h.nd,fun q hq=>?_,fun q hq=>?_,?_,fun i j L a b o K=>?_,fun i L a o x J hf=>?_,fun x J hf=>List.mem_append_left _ (h.ini x J hf)⟩
 ·rcases Eg.1 hq with hq | hq
  ·exact h.rg q hq
  ·obtain ⟨a,b,c⟩:=D q hq;exact ⟨Ba d I.1.1 I.1.2 b,c,by omega⟩
 ·rcases Eg.1 hq with hq | hq
  ·rcases h.bk q hq with h5 | ⟨r,hr,h5⟩
   ·exact .inl h5
   ·exact .inr ⟨r,List.mem_append_left _ hr,h5⟩
  ·obtain ⟨a,b,c⟩:=D q hq;exact .inr ⟨p,List.mem_append_left _ E,b,a⟩
 ·rw [List.pairwise_append];refine ⟨h.mono,?_,fun a o b K=>?_⟩
  ·rw [List.pairwise_iff_getElem];intro i j L M _;have:=(D _ (Dr L)).1;have:=(D _ (Dr M)).1;omega
  ·have:=B a (List.mem_append_left _ o);have:=(D b K).1;omega
 ·-- behind k all distances are at least that of k
  have h5:p.2<=a.2:=by
   rcases DO i F.length with h6 | h6
   ·rw [Dw h6] at o;have O:=List.pairwise_iff_getElem.1 h.mono k i hk h6 (by omega);rw [Do hk] at hp;rw [Do h6] at o;injection hp with hp;injection o with o;rw [hp,o] at O;exact O
   ·rw [Dx h6] at o;have:=(D a (List.mem_of_getElem? o)).1;omega
  have:=B b (List.mem_of_getElem? K);omega
 ·rcases DO i k with h5 | h5
  ·rw [Dw (by omega)] at o;obtain ⟨q,hq,h6⟩:=h.cl i h5 a o x J hf;exact ⟨q,List.mem_append_left _ hq,h6⟩
  ·obtain rfl:i=k:=by omega
   rw [Dw hk,hp] at o;injection o with o;subst o;obtain ⟨q,hq,h6⟩:=V x J hf;exact ⟨q,hq,h6,B q hq⟩
theorem DFI.len {m:MZ} (h:DFI m fr tg k F):F.length<=m.n.toNat:=by
 have o:=Bx h.nd m.n (fun x B=>by
  obtain ⟨p,hp,rfl⟩:=Er.1 B;exact (h.rg p hp).1)
 rw [Eb] at o;omega
theorem bfs_fi {m:MZ} {fr:Int->Bool} {tg:List Int} (d:Dim m):∀(f k:Nat) (F:List (Int×Int)),DFI m fr tg k F->k<=F.length->m.n.toNat<f+k->∃j,DFI m fr tg j (bfs m fr f k F)/\j=(bfs m fr f k F).length
 | 0,k,F,h,o,hf=>by
  have:=h.len;omega
 | f+1,k,F,h,o,hf=>by
  unfold bfs
  cases hp:F[k]? with
  | none=>
   have h1:F.length<=k:=List.getElem?_eq_none_iff.1 hp;exact ⟨k,h,by show k=F.length;omega⟩
  | some p=>
   have B:k<F.length:=by
    rcases DO k F.length with h1 | h1
    ·exact h1
    ·rw [DL h1] at hp;cases hp
   obtain ⟨G,h1,-⟩:=Bj fr (p.2+1) (zg m p.1) F;exact bfs_fi d f (k+1) _ (h.step d hp) (by rw [h1];simp;omega) (by omega)
def bestL (F:List (Int×Int)):List Int->Option Int->Option Int
 | [],b=>b
 | n :: l,b=>bestL F l (match F.lookup n with
  | none=>b
  | some d=>match b with
   | none=>some n
   | some c=>if d<(F.lookup c).getD 0\/(d=(F.lookup c).getD 0/\n<c) then some n else some c)
def downN (m:MZ) (F:List (Int×Int)) (b:Int):Int:=((zg m b).find? fun x=>decide (F.lookup x=some ((F.lookup b).getD 0 - 1))).getD b
def down (m:MZ) (F:List (Int×Int)):Nat->Int->List Int
 | 0,b=>[b]
 | f+1,b=>b :: down m F f (downN m F b)
theorem bestL_none {F:List (Int×Int)}:∀{l:List Int} {b:Option Int},bestL F l b=none->b=none/\∀n∈l,F.lookup n=none
 | [],b,h=>⟨h,fun n E=>(by cases E)⟩
 | n :: l,b,h=>by
  unfold bestL at h;obtain ⟨o,D⟩:=bestL_none h
  cases B:F.lookup n with
  | none=>
   rw [B] at o;refine ⟨o,fun x hx=>?_⟩;rcases Ef.1 hx with rfl | hx
   ·exact B
   ·exact D x hx
  | some d=>
   rw [B] at o
   exfalso
   cases b with
   | none=>cases o
   | some c=>
    simp only at o
    split at o <;> cases o
theorem BM {F:List (Int×Int)}:∀{l:List Int} {b:Option Int} {r:Int},(∀c,b=some c->∃d,F.lookup c=some d)->bestL F l b=some r->∃d,F.lookup r=some d/\(b=some r\/r∈l)/\(∀c e,b=some c->F.lookup c=some e->d<e\/(d=e/\r<=c))/\∀n e,n∈l->F.lookup n=some e->d<e\/(d=e/\r<=n)
 | [],b,r,K,h=>by
  unfold bestL at h;subst h;obtain ⟨d,L⟩:=K r rfl;exact ⟨d,L,.inl rfl,fun c e o he=>by injection o with o;subst o;rw [L] at he;injection he with he;exact .inr ⟨he,Int.le_refl _⟩,fun n e O=>(by cases O)⟩
 | n :: l,b,r,K,h=>by
  unfold bestL at h
  cases I:F.lookup n with
  | none=>
   rw [I] at h;obtain ⟨d,E,h2,D,G⟩:=BM K h;refine ⟨d,E,h2.imp id (DM _),D,fun x e hx he=>?_⟩;rcases Ef.1 hx with rfl | hx
   ·rw [I] at he;cases he
   ·exact G x e hx he
  | some dn=>
   rw [I] at h
   cases b with
   | none=>
    simp only at h;obtain ⟨d,E,h2,D,G⟩:=BM (b:=some n) (fun c o=>by injection o with o;subst o;exact ⟨dn,I⟩) h;refine ⟨d,E,.inr ?_,fun c e o=>(by cases o),fun x e hx he=>?_⟩
    ·rcases h2 with h2 | h2
     ·injection h2 with h2;subst h2;exact Ed ..
     ·exact DM _ h2
    ·rcases Ef.1 hx with rfl | hx
     ·exact D x e rfl he
     ·exact G x e hx he
   | some c=>
    obtain ⟨dc,o⟩:=K c rfl;simp only [o,DW] at h;by_cases J:dn<dc\/(dn=dc/\n<c)
    ·rw [if_pos J] at h;obtain ⟨d,E,h2,D,G⟩:=BM (b:=some n) (fun c o=>by injection o with o;subst o;exact ⟨dn,I⟩) h;have M:=D n dn rfl I;refine ⟨d,E,.inr ?_,fun c' e B he=>?_,fun x e hx he=>?_⟩
     ·rcases h2 with h2 | h2
      ·injection h2 with h2;subst h2;exact Ed ..
      ·exact DM _ h2
     ·injection B with B;subst B;rw [o] at he;injection he with he;subst he;omega
     ·rcases Ef.1 hx with rfl | hx
      ·exact D x e rfl he
      ·exact G x e hx he
    ·rw [if_neg J] at h;obtain ⟨d,E,h2,D,G⟩:=BM (b:=some c) (fun c' B=>by injection B with B;subst B;exact ⟨dc,o⟩) h;have M:=D c dc rfl o;refine ⟨d,E,h2.imp id (DM _),D,fun x e hx he=>?_⟩;rcases Ef.1 hx with rfl | hx
     ·rw [I] at he;injection he with he;subst he;omega
     ·exact G x e hx he
theorem downN_ok {m:MZ} (d:Dim m) (h:DFI m fr tg k F) {b:Int} {f:Nat} (G:F.lookup b=some ((f:Int)+1)):F.lookup (downN m F b)=some (f:Int)/\downN m F b∈zg m b:=by
 have J:=AZ G;rcases h.bk _ J with ⟨o,-⟩ | ⟨q,I,o,K⟩
 ·simp only at o;omega
 ·simp only at o K;have D:=h.rg q I;have L:=nextL_symm d D.1.1 D.1.2 o
  have M:F.lookup q.1=some (f:Int):=by
   refine lookup_of h.nd ?_;have:q.2=(f:Int):=by omega
   rw [<-this];exact I
  unfold downN;rw [G,DW,Int.add_sub_cancel]
  cases B:(zg m b).find? (fun x=>decide (F.lookup x=some (f:Int))) with
  | none=>
   have:=List.find?_eq_none.1 B _ L;rw [M] at this;simp at this
  | some x=>
   have E:=List.find?_some B;rw [DB] at E;exact ⟨E,List.mem_of_find?_eq_some B⟩
theorem down_spec {m:MZ} {fr:Int->Bool} {tg:List Int} {k:Nat} {F:List (Int×Int)} (d:Dim m) (h:DFI m fr tg k F):∀(f:Nat) (b:Int),F.lookup b=some (f:Int)->(down m F f b).length=f+1/\(down m F f b)[0]?=some b/\(∀(i:Nat) x,(down m F f b)[i]?=some x->i<=f/\F.lookup x=some ((f:Int) - i))/\∀(i:Nat) x y,(down m F f b)[i]?=some x->(down m F f b)[i+1]?=some y->y∈zg m x
 | 0,b,D=>by
  refine ⟨rfl,rfl,fun i x o=>?_,fun i x y o B=>?_⟩
  ·unfold down at o
   cases i with
   | zero=>simp at o;subst o;exact ⟨Dq _,by simpa using D⟩
   | succ i=>simp at o
  ·unfold down at B;simp at B
 | f+1,b,D=>by
  obtain ⟨E,G⟩:=downN_ok d h (by exact_mod_cast D:F.lookup b=some ((f:Int)+1));obtain ⟨a1,a2,a3,a4⟩:=down_spec d h f _ E;unfold down;refine ⟨by simp [a1],rfl,fun i x o=>?_,fun i x y o B=>?_⟩
  ·cases i with
   | zero=>simp at o;subst o;exact ⟨DF _,by simpa using D⟩
   | succ i=>
    rw [List.getElem?_cons_succ] at o;obtain ⟨J,I⟩:=a3 i x o;refine ⟨by omega,?_⟩;rw [I];congr 1;omega
  ·rw [List.getElem?_cons_succ] at B
   cases i with
   | zero=>
    simp at o;subst o;rw [a2] at B;injection B with B;subst B;exact G
   | succ i=>
    rw [List.getElem?_cons_succ] at o;exact a4 i x y o B
end
end Go.Proofs.YtnmkmhpgnpojbaaGreatDoor
