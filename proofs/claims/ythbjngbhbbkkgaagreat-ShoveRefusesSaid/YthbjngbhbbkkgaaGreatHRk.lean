import Derived.Test.YthbjngbhbbkkgaaGreatHRj
import Derived.KernelRfl
set_option linter.unusedVariables false
set_option linter.unusedSimpArgs false
set_option maxRecDepth 100000
set_option maxHeartbeats 16000000
namespace Go.Proofs.YthbjngbhbbkkgaaGreat
variable {a d n x z:Int} {fr:Int->Bool} {F:List (Int×Int)} {S acc tg:List Int} {xs:List Value} {B c k:Nat}
section
open Go.RowKit
def zP (m:MZ) (ch:List Int):List (List Int):=ch.foldl (BQ m) (ps0 m)
def cand (m:MZ) (ch:List Int):List Int:=Ct m (zP m ch) ch
def zX (m:MZ) (ch:List Int):Bool:=cmpB m (zP m ch)
noncomputable def Bb (m:MZ) (ch:List Int):Bool:=openB m (zP m ch) ch
theorem psOf_nil (m:MZ):zP m []=ps0 m:=rfl
theorem DM (m:MZ) (ch:List Int) (n:Int):zP m (ch++[n])=BQ m (zP m ch) n:=by simp [zP,List.foldl_append]
section
variable {m:MZ} {ps:List (List Int)} {us us':List Int}
theorem dec_congr (h:∀x,x∈us↔x∈us') (n:Int):decide (n∈us)=decide (n∈us'):=by rw [decide_eq_decide];exact h n
theorem candL_congr (h:∀x,x∈us↔x∈us'):Ct m ps us=Ct m ps us':=by
 unfold Ct;simp only [zN,dec_congr h]
 have:(fun n=>zN m us (ps.length - 1) (ps.getD (ps.length - 1) []).dropLast (m.tasks.getD (ps.length - 1) ([],[])).1 n)=(fun n=>zN m us' (ps.length - 1) (ps.getD (ps.length - 1) []).dropLast (m.tasks.getD (ps.length - 1) ([],[])).1 n):=by
  funext n;simp only [zN,dec_congr h]
 have h2:zN m us (ps.length - 1) (ps.getD (ps.length - 1) []).dropLast (m.tasks.getD (ps.length - 1) ([],[])).1=zN m us' (ps.length - 1) (ps.getD (ps.length - 1) []).dropLast (m.tasks.getD (ps.length - 1) ([],[])).1:=this;rw [h2]
theorem fromL_congr (h:∀x,x∈us↔x∈us') (t:Nat):BE m ps us t=BE m ps us' t:=by
 unfold BE;simp only [dec_congr h]
theorem reachL_congr (h:∀x,x∈us↔x∈us') (t:Nat) (f:List Int):Cg m t f us=Cg m t f us':=by
 unfold Cg;apply List.filter_congr;intro x _;rw [decide_eq_decide];exact ⟨fun o=>o.congr (fun _=>Iff.rfl) h,fun o=>o.congr (fun _=>Iff.rfl) (fun x=>(h x).symm)⟩
theorem openB_congr (h:∀x,x∈us↔x∈us'):openB m ps us=openB m ps us':=by
 unfold openB openT;simp only [fromL_congr h,reachL_congr h]
end
inductive zx (m:MZ):List Int->Prop
 | nil:zx m []
 | snoc {ch:List Int} {n:Int}:zx m ch->n∈cand m ch->zx m (ch++[n])
theorem Cb {m:MZ} {ch:List Int} (h:n∈cand m ch):zX m ch=false:=by
 unfold cand Ct at h;unfold zX
 cases o:cmpB m (zP m ch)
 ·rfl
 ·rw [if_pos o] at h;cases h
theorem Cp {m:MZ} {ps:List (List Int)} (h:cmpB m ps=false):0<m.tasks.length:=by
 rcases Fs m.tasks.length with h0 | h0
 ·unfold cmpB at h;rw [EJ h0] at h;cases h
 ·exact h0
structure PsOk (m:MZ) (ch:List Int) (ps:List (List Int)):Prop where
 pl:ps.length<=m.tasks.length
 pn:0<m.tasks.length->0<ps.length
 fl:ps.flatten=ch
theorem getD_mem {α:Type} {l:List (List α)} (h:k<l.length):l.getD k []∈l:=by
 rw [EF,EE h];exact EH h
theorem addN_eq {ps:List (List Int)} (hp:0<ps.length) (n:Int):∃qs p,ps=qs++[p]/\Cm ps n=qs++[p++[n]]:=by
 rcases List.eq_nil_or_concat ps with rfl | ⟨qs,p,rfl⟩
 ·simp at hp
 ·refine ⟨qs,p,by simp,?_⟩;unfold Cm;rw [List.concat_eq_append,EO,Ff,Nat.add_sub_cancel,List.set_append_right _ _ (EG _)];simp
theorem Dl {ps:List (List Int)}:(Cm ps n).length=ps.length:=by unfold Cm;simp
theorem addN_flat {ps:List (List Int)} (hp:0<ps.length) (n:Int):(Cm ps n).flatten=ps.flatten++[n]:=by
 obtain ⟨qs,p,rfl,h⟩:=addN_eq hp n;rw [h];simp
theorem withPs_flat {m:MZ} {ps:List (List Int)} (hp:0<ps.length) (n:Int):(BQ m ps n).flatten=ps.flatten++[n]:=by
 unfold BQ
 split
 ·rw [List.flatten_append,addN_flat hp];simp
 ·exact addN_flat hp n
theorem PsOk.step {m:MZ} {ch:List Int} {ps:List (List Int)} (h:PsOk m ch ps) (o:0<m.tasks.length) (n:Int):PsOk m (ch++[n]) (BQ m ps n):=by
 have hp:=h.pn o;refine ⟨?_,fun _=>?_,?_⟩
 ·unfold BQ
  split
  ·rename_i h1
   simp only [EO,Dl,Ff];omega
  ·rw [Dl];exact h.pl
 ·unfold BQ
  split <;> simp [Dl] <;> omega
 ·rw [withPs_flat hp,h.fl]
theorem psOk_nil (m:MZ):PsOk m [] (zP m []):=by
 rw [psOf_nil];unfold ps0
 split
 ·rename_i h;exact ⟨by simp,fun o=>by omega,rfl⟩
 ·rename_i h;exact ⟨by simp;omega,fun _=>by simp,rfl⟩
theorem zx.psOk {m:MZ} {ch:List Int} (h:zx m ch):PsOk m ch (zP m ch):=by
 induction h with
 | nil=>exact psOk_nil m
 | snoc h o ih=>rw [DM];exact ih.step (Cp (Cb o)) _
theorem mem_flat_last {ps:List (List Int)} (D:(ps.getD k []).getLast?=some x):x∈ps.flatten:=by
 have h1:x∈ps.getD k []:=List.mem_of_getLast? D;by_cases o:k<ps.length
 ·exact List.mem_flatten.2 ⟨_,getD_mem o,h1⟩
 ·rw [EF,EZ (by omega)] at h1;cases h1
theorem cand_range {m:MZ} (g:zC m) {ch:List Int} (J:∀x∈ch,0<=x/\x<m.n) (I:(zP m ch).flatten=ch) (h:n∈cand m ch):0<=n/\n<m.n/\n∉ch:=by
 have M:=Cp (Cb h);have o:=Cb h;unfold zX at o;unfold cand Ct at h;rw [if_neg (by rw [o];simp)] at h
 split at h
 ·obtain ⟨h1,h2⟩:=FG.1 h;have h3:=mem_sortL.1 (Em h1);simp only [ES,Bool.not_eq_true',Fd] at h2;by_cases G:(zP m ch).length - 1<m.tasks.length
  ·rw [EF,EE G] at h3;have:=g.tn _ (EH G) n (.inl h3);exact ⟨this.1,this.2,h2.2⟩
  ·rw [EF,EZ (by omega)] at h3;cases h3
 ·rename_i x L
  obtain ⟨h1,h2⟩:=FG.1 h;have E:x∈ch:=by rw [<-I];exact mem_flat_last L
  have D:=J x E;have h3:=An g.dim D.1 D.2 h1;unfold zN at h2;simp only [ES,Bool.not_eq_true',Fd] at h2;exact ⟨h3.1,h3.2,h2.1.1.2⟩
theorem zx.range {m:MZ} (g:zC m) {ch:List Int} (h:zx m ch):(∀x∈ch,0<=x/\x<m.n)/\ch.Nodup:=by
 induction h with
 | nil=>exact ⟨fun x hx=>absurd hx FF,List.nodup_nil⟩
 | snoc h G ih=>
  have o:=cand_range g ih.1 h.psOk.fl G;refine ⟨fun x hx=>?_,?_⟩
  ·rcases Fx.1 hx with hx | hx
   ·exact ih.1 x hx
   ·rw [Fo] at hx;subst hx;exact ⟨o.1,o.2.1⟩
  ·rw [List.nodup_append];refine ⟨ih.2,by simp,fun a E b D=>?_⟩;rw [Fo] at D;subst D;rintro rfl;exact o.2.2 E
theorem zx.len {m:MZ} (g:zC m) {ch:List Int} (h:zx m ch):ch.length<=m.n.toNat:=Bo (h.range g).2 m.n (h.range g).1
theorem flat_le {ps:List (List Int)} {p:List Int} (h:p∈ps):p.length<=ps.flatten.length:=by
 induction ps with
 | nil=>cases h
 | cons q qs ih=>
  rw [List.flatten_cons,EO];rcases Fw.1 h with rfl | h
  ·omega
  ·have:=ih h;omega
theorem sok_of {m:MZ} (g:zC m) (D:Lens m) {ch:List Int} {ps:List (List Int)} (h:PsOk m ch ps) (E:∀x∈ch,0<=x/\x<m.n) (o:ch.length<=1000):SOk m ch ps:=
 ⟨g,D,h.pl,h.pn,fun p hp=>by have:=flat_le hp;rw [h.fl] at this;omega,fun p hp x G=>E x (by rw [<-h.fl];exact List.mem_flatten.2 ⟨p,hp,G⟩),o⟩
theorem zx.len300 {m:MZ} (g:zC m) {ch:List Int} (h:zx m ch):ch.length<=300:=by
 have h1:=h.len g;have h2:=g.dim.n1;have h3:m.n=m.w*m.h*m.l:=rfl;omega
theorem zx.sok {m:MZ} (g:zC m) (o:Lens m) {ch:List Int} (h:zx m ch):SOk m ch (zP m ch):=
 sok_of g o h.psOk (h.range g).1 (by have:=h.len300 g;omega)
theorem zx.sok1 {m:MZ} (g:zC m) (D:Lens m) {ch:List Int} (h:zx m ch) (o:n∈cand m ch):SOk m (ch++[n]) (Cm (zP m ch) n):=by
 have h1:=h.psOk;have E:=Cp (Cb o);have h2:=zx.snoc h o;refine sok_of g D ⟨by rw [Dl];exact h1.pl,fun h=>by rw [Dl];exact h1.pn h,by rw [addN_flat (h1.pn E),h1.fl]⟩ (h2.range g).1 (by have:=h2.len300 g;omega)
theorem CT {m:MZ} (D:Lens m) (ch:List Int):(cand m ch).length<=400000000000:=by
 unfold cand Ct
 split
 ·simp
 ·split
  ·refine EI (Fi _ _) (EI (compact_len _) ?_);unfold BH;rw [List.length_mergeSort];by_cases o:(zP m ch).length - 1<m.tasks.length
   ·rw [EF,EE o];exact (D.tl _ (EH o)).1
   ·rw [EF,EZ (by omega)];simp
  ·refine EI (Fi _ _) ?_;have:=Bc m;exact EI (this _) (by omega)
noncomputable def aft (m:MZ) (ch:List Int) (last:Int):Option Int:=(cand m ch).find? fun n=>decide (last<n) && Bb m (ch++[n])
noncomputable def backN (m:MZ) (ch:List Int):Nat->Option (List Int)
 | 0=>none
 | k+1=>match aft m (ch.take k) (ch.getD k 0) with
  | some n=>some (ch.take k++[n])
  | none=>backN m ch k
noncomputable def stepC (m:MZ) (ch:List Int):Option (List Int):=
 match aft m ch (-1) with
 | some n=>some (ch++[n])
 | none=>backN m ch ch.length
structure RS where
 ch:List Int
 done:Bool
 steps:Int
noncomputable def RS.one (m:MZ) (s:RS):RS:=match stepC m s.ch with
 | some c=>⟨c,zX m c,s.steps+1⟩
 | none=>⟨[],true,s.steps+1⟩
noncomputable def RS.run (m:MZ):Nat->RS->RS
 | 0,s=>s
 | n+1,s=>if s.done=true then s else RS.run m n (s.one m)
theorem RS.run_done {m:MZ} {s:RS} (h:s.done=true):∀n,RS.run m n s=s
 | 0=>rfl
 | n+1=>by simp [RS.run,h]
theorem zx.take {m:MZ} {ch:List Int} (h:zx m ch) (k:Nat):zx m (ch.take k):=by
 induction h with
 | nil=>simpa using zx.nil
 | @snoc ch n h o ih=>
  rcases Fc ch.length k with hk | hk
  ·rw [List.take_of_length_le (by simp;omega)];exact .snoc h o
  ·rw [List.take_append_of_le_length hk];exact ih
theorem zx.at {m:MZ} {ch:List Int} (h:zx m ch) {k:Nat} (o:k<ch.length):ch[k]∈cand m (ch.take k):=by
 induction h with
 | nil=>simp at o
 | @snoc ch n h D ih=>
  rcases Fc k ch.length with h1 | h1
  ·rw [List.getElem_append_left h1,List.take_append_of_le_length (by omega)];exact ih h1
  ·have h2:k=ch.length:=by simp at o;omega
   subst h2;rw [List.getElem_append_right (EG _),List.take_append_of_le_length (EG _),ER];simpa using D
theorem aft_some {m:MZ} {ch:List Int} {last:Int} (h:aft m ch last=some n):n∈cand m ch/\last<n/\Bb m (ch++[n])=true:=by
 unfold aft at h;have h1:=List.find?_some h;simp only [ES,EQ] at h1;exact ⟨List.mem_of_find?_eq_some h,h1.1,h1.2⟩
theorem backN_some {m:MZ} {ch:List Int} (h:zx m ch):∀{k:Nat} {c:List Int},backN m ch k=some c->zx m c/\0<c.length/\Bb m c=true
 | 0,c,o=>by cases o
 | k+1,c,o=>by
  unfold backN at o
  split at o
  ·rename_i n D
   injection o with o;subst o;obtain ⟨h1,_,h2⟩:=aft_some D;exact ⟨.snoc (h.take k) h1,by simp,h2⟩
  ·exact backN_some h o
theorem stepC_some {m:MZ} {ch c:List Int} (h:zx m ch) (o:stepC m ch=some c):zx m c/\0<c.length/\Bb m c=true:=by
 unfold stepC at o
 split at o
 ·rename_i n D
  injection o with o;subst o;obtain ⟨h1,_,h2⟩:=aft_some D;exact ⟨.snoc h h1,by simp,h2⟩
 ·exact backN_some h o
def Ci (m:MZ) (t:Nat) (us acc:List Int) (z:Int):List Int:=if (zi m t z && !decide (z∈us) && !decide (z∈acc))=true then acc++[z] else acc
def growX (m:MZ) (t:Nat) (us S:List Int):List Int:=(S.flatMap (zl m)).foldl (Ci m t us) S
def growN (m:MZ) (t:Nat) (us:List Int):Nat->List Int->List Int
 | 0,S=>S
 | k+1,S=>growN m t us k (growX m t us S)
def start (m:MZ) (f:List Int):List Int:=f.foldl (fun acc x=>if (decide (0<=x) && decide (x<m.n) && !decide (x∈acc))=true then acc++[x] else acc) []
def reachX (m:MZ) (t:Nat) (f us:List Int):List Int:=growN m t us (m.n.toNat+1) (start m f)
section
variable {m:MZ} {t:Nat} {us f:List Int}
structure GK (m:MZ) (t:Nat) (f us S:List Int):Prop where
 nd:S.Nodup
 rg:∀x∈S,0<=x/\x<m.n
 rp:∀x∈S,RP m t f us x
theorem addIf_sub (acc:List Int) (z:Int):∀x∈acc,x∈Ci m t us acc z:=by
 intro x o;unfold Ci
 split
 ·exact List.mem_append_left _ o
 ·exact o
theorem addIf_len (acc:List Int) (z:Int):acc.length<=(Ci m t us acc z).length:=by
 unfold Ci
 split <;> simp
theorem addIf_gk (h:GK m t f us acc) (h0:0<=z/\z<m.n) (h1:zi m t z=true->z∉us->RP m t f us z):GK m t f us (Ci m t us acc z):=by
 unfold Ci
 split
 ·rename_i o
  simp only [ES,Bool.not_eq_true',Fd] at o;refine ⟨?_,fun x hx=>?_,fun x hx=>?_⟩
  ·rw [List.nodup_append];refine ⟨h.nd,by simp,fun a E b D=>?_⟩;rw [Fo] at D;rintro rfl;subst D;exact o.2 E
  ·rcases Fx.1 hx with hx | hx
   ·exact h.rg x hx
   ·rw [Fo] at hx;subst hx;exact h0
  ·rcases Fx.1 hx with hx | hx
   ·exact h.rp x hx
   ·rw [Fo] at hx;subst hx;exact h1 o.1.1 o.1.2
 ·exact h
theorem fold_sub:∀(l acc:List Int),∀x∈acc,x∈l.foldl (Ci m t us) acc
 | [],acc,x,o=>o
 | z :: l,acc,x,o=>fold_sub l (Ci m t us acc z) x (addIf_sub acc z x o)
theorem fold_len:∀(l acc:List Int),acc.length<=(l.foldl (Ci m t us) acc).length
 | [],acc=>EG _
 | z :: l,acc=>EI (addIf_len acc z) (fold_len l _)
theorem fold_gk:∀(l acc:List Int),GK m t f us acc->(∀z∈l,(0<=z/\z<m.n)/\(zi m t z=true->z∉us->RP m t f us z))->GK m t f us (l.foldl (Ci m t us) acc)
 | [],acc,h,_=>h
 | z :: l,acc,h,o=>fold_gk l _ (addIf_gk h (o z (Ft ..)).1 (o z (Ft ..)).2) (fun x D=>o x (Fa _ D))
theorem grow_gk (d:Ex m) (h:GK m t f us S):GK m t f us (growX m t us S):=by
 refine fold_gk _ _ h fun z G=>?_
 obtain ⟨y,E,D⟩:=List.mem_flatMap.1 G;have o:=h.rg y E;exact ⟨An d o.1 o.2 D,fun h1 h2=>(h.rp y E).step D h1 h2⟩
def Closed (m:MZ) (t:Nat) (us S:List Int):Prop:=∀y∈S,∀z∈zl m y,zi m t z=true->z∉us->z∈S
theorem addIf_eq (h:zi m t z=true->z∉us->z∈acc):Ci m t us acc z=acc:=by
 unfold Ci;rw [if_neg];intro o;simp only [ES,Bool.not_eq_true',Fd] at o;exact o.2 (h o.1.1 o.1.2)
theorem fold_eq:∀(l acc:List Int),(∀z∈l,zi m t z=true->z∉us->z∈acc)->l.foldl (Ci m t us) acc=acc
 | [],acc,_=>rfl
 | z :: l,acc,h=>by
  rw [List.foldl_cons,addIf_eq (h z (Ft ..))];exact fold_eq l acc (fun x o=>h x (Fa _ o))
theorem grow_closed (h:Closed m t us S):growX m t us S=S:=
 fold_eq _ _ fun z E=>by
  obtain ⟨y,D,o⟩:=List.mem_flatMap.1 E;exact h y D z o
theorem fold_more:∀(l acc:List Int),(∃z∈l,zi m t z=true/\z∉us/\z∉acc)->acc.length<(l.foldl (Ci m t us) acc).length
 | z :: l,acc,⟨x,hx,h1,h2,h3⟩=>by
  rw [List.foldl_cons];rcases Fw.1 hx with rfl | hx
  ·have:(Ci m t us acc x).length=acc.length+1:=by
    unfold Ci;rw [if_pos (by simp [h1,h2,h3])];simp
   have:=fold_len (m:=m) (t:=t) (us:=us) l (Ci m t us acc x);omega
  ·by_cases o:x∈Ci m t us acc z
   ·have D:acc.length<(Ci m t us acc z).length:=by
     unfold Ci at o⊢
     split
     ·simp
     ·rename_i E;rw [if_neg E] at o;exact absurd o h3
    exact Fh D (fold_len l _)
   ·exact Nat.lt_of_le_of_lt (addIf_len acc z) (fold_more l _ ⟨x,hx,h1,h2,o⟩)
theorem growN_gk (d:Ex m):∀(k:Nat) {S:List Int},GK m t f us S->GK m t f us (growN m t us k S)
 | 0,S,h=>h
 | k+1,S,h=>growN_gk d k (grow_gk d h)
theorem growN_sub:∀(k:Nat) (S:List Int),∀x∈S,x∈growN m t us k S
 | 0,S,x,o=>o
 | k+1,S,x,o=>growN_sub k _ x (fold_sub _ _ x o)
theorem growN_closed {S:List Int} (h:Closed m t us S):∀k,growN m t us k S=S
 | 0=>rfl
 | k+1=>by unfold growN;rw [grow_closed h];exact growN_closed h k
theorem growN_or:∀(k:Nat) (S:List Int),Closed m t us (growN m t us k S)\/S.length+k<=(growN m t us k S).length
 | 0,S=>.inr (EG _)
 | k+1,S=>by
  by_cases h:Closed m t us S
  ·left
   rw [growN_closed h];exact h
  ·have h1:S.length<(growX m t us S).length:=by
    refine fold_more _ _ ?_;unfold Closed at h;simp only [Classical.not_forall] at h;obtain ⟨y,o,z,D,h1,h2,h3⟩:=h;exact ⟨z,List.mem_flatMap.2 ⟨y,o,D⟩,h1,h2,h3⟩
   rcases growN_or k (growX m t us S) with h2 | h2
   ·exact .inl h2
   ·right
    unfold growN;omega
theorem start_gk (m:MZ) (t:Nat) (us f:List Int):GK m t f us (start m f)/\∀x∈f,0<=x->x<m.n->x∈start m f:=by
 have key:∀(l acc:List Int),(∀x∈l,x∈f)->GK m t f us acc->GK m t f us (l.foldl (fun acc x=>if (decide (0<=x) && decide (x<m.n) && !decide (x∈acc))=true then acc++[x] else acc) acc)/\
   (∀x∈acc,x∈l.foldl (fun acc x=>if (decide (0<=x) && decide (x<m.n) && !decide (x∈acc))=true then acc++[x] else acc) acc)/\∀x∈l,0<=x->x<m.n->x∈l.foldl (fun acc x=>if (decide (0<=x) && decide (x<m.n) && !decide (x∈acc))=true then acc++[x] else acc) acc:=by
  intro l
  induction l with
  | nil=>intro acc _ h;exact ⟨h,fun x hx=>hx,fun x hx=>by cases hx⟩
  | cons z l ih=>
   intro acc D h;rw [List.foldl_cons];by_cases o:(decide (0<=z) && decide (z<m.n) && !decide (z∈acc))=true
   ·rw [if_pos o];simp only [ES,Bool.not_eq_true',Fd,EQ] at o
    obtain ⟨h1,h2,h3⟩:=ih (acc++[z]) (fun x hx=>D x (Fa _ hx)) ⟨by
     rw [List.nodup_append];refine ⟨h.nd,by simp,fun a G b E=>?_⟩;rw [Fo] at E;rintro rfl;subst E;exact o.2 G,fun x hx=>by
     rcases Fx.1 hx with hx | hx
     ·exact h.rg x hx
     ·rw [Fo] at hx;subst hx;exact o.1,fun x hx=>by
     rcases Fx.1 hx with hx | hx
     ·exact h.rp x hx
     ·rw [Fo] at hx;subst hx;exact RP.base (D x (Ft ..)) o.1.1 o.1.2⟩
    refine ⟨h1,fun x hx=>h2 x (List.mem_append_left _ hx),fun x hx a b=>?_⟩;rcases Fw.1 hx with rfl | hx
    ·exact h2 x (by simp)
    ·exact h3 x hx a b
   ·rw [if_neg o];obtain ⟨h1,h2,h3⟩:=ih acc (fun x hx=>D x (Fa _ hx)) h;refine ⟨h1,h2,fun x hx a b=>?_⟩;rcases Fw.1 hx with rfl | hx
    ·refine h2 x ?_;simp only [ES,Bool.not_eq_true',Fd,EQ] at o;by_cases hm:x∈acc
     ·exact hm
     ·exact absurd ⟨⟨a,b⟩,hm⟩ o
    ·exact h3 x hx a b
 have h:=key f [] (fun _ h=>h) ⟨List.nodup_nil,fun x hx=>absurd hx FF,fun x hx=>absurd hx FF⟩;exact ⟨h.1,h.2.2⟩
theorem mem_reachX (d:Ex m) (x:Int):x∈reachX m t f us↔RP m t f us x:=by
 have E:=start_gk m t us f;have o:=growN_gk (t:=t) (f:=f) (us:=us) d (m.n.toNat+1) E.1
 have G:Closed m t us (reachX m t f us):=by
  rcases growN_or (m:=m) (t:=t) (us:=us) (m.n.toNat+1) (start m f) with h | h
  ·exact h
  ·have:=Bo o.nd m.n o.rg;omega
 constructor
 ·exact fun h=>o.rp x h
 ·intro h;exact h (fun x=>x∈reachX m t f us) (fun y D h0 h1=>growN_sub _ _ y (E.2 y D h0 h1)) (fun y z D I h1 h2=>G y D z I h1 h2)
end
theorem reachL_x {m:MZ} (d:Ex m) (t:Nat) (f us:List Int):Cg m t f us=((List.range m.n.toNat).map Int.ofNat).filter fun x=>decide (x∈reachX m t f us):=by
 rw [reachL_of (fun x=>mem_reachX d x)]
def openTX (m:MZ) (ps:List (List Int)) (us:List Int) (t:Nat):Bool:=((m.tasks.getD t ([],[])).2).any fun x=>decide (x∈reachX m t (BE m ps us t) us)
def openX (m:MZ) (ch:List Int):Bool:=(List.range (tasksN m (zP m ch))).all fun k=>openTX m (zP m ch) ch ((zP m ch).length - 1+k)
theorem openC_x {m:MZ} (d:Ex m) (ch:List Int):Bb m ch=openX m ch:=by
 unfold Bb openX openB;congr 1;funext k;unfold openT openTX;congr 1;funext x;rw [decide_eq_decide,BY d,mem_reachX d]
def aftX (m:MZ) (ch:List Int) (last:Int):Option Int:=(cand m ch).find? fun n=>decide (last<n) && openX m (ch++[n])
theorem aft_x {m:MZ} (d:Ex m) (ch:List Int) (last:Int):aft m ch last=aftX m ch last:=by
 unfold aft aftX;congr 1;funext n;rw [openC_x d]
def backX (m:MZ) (ch:List Int):Nat->Option (List Int)
 | 0=>none
 | k+1=>match aftX m (ch.take k) (ch.getD k 0) with
  | some n=>some (ch.take k++[n])
  | none=>backX m ch k
theorem back_x {m:MZ} (d:Ex m) (ch:List Int):∀k,backN m ch k=backX m ch k
 | 0=>rfl
 | k+1=>by
  unfold backN backX;rw [aft_x d,back_x d ch k]
  all_goals rfl
def stepX (m:MZ) (ch:List Int):Option (List Int):=
 match aftX m ch (-1) with
 | some n=>some (ch++[n])
 | none=>backX m ch ch.length
theorem step_x {m:MZ} (d:Ex m) (ch:List Int):stepC m ch=stepX m ch:=by
 unfold stepC stepX;rw [aft_x d,back_x d]
 all_goals rfl
def RS.oneX (m:MZ) (s:RS):RS:=match stepX m s.ch with
 | some c=>⟨c,zX m c,s.steps+1⟩
 | none=>⟨[],true,s.steps+1⟩
def RS.runX (m:MZ):Nat->RS->RS
 | 0,s=>s
 | n+1,s=>if s.done=true then s else RS.runX m n (s.oneX m)
theorem run_x {m:MZ} (d:Ex m):∀(n:Nat) (s:RS),RS.run m n s=RS.runX m n s
 | 0,s=>rfl
 | n+1,s=>by
  unfold RS.run RS.runX;rw [run_x d n];unfold RS.one RS.oneX;rw [step_x d]
  all_goals rfl
theorem emod_pred {m:Int} (hm:0<m) (h:0<a % m):(a - 1) % m=a % m - 1:=by
 have h1:=Int.emod_add_mul_ediv a m;have h2:=Int.emod_lt_of_pos a hm;have h3:a - 1=(a % m - 1)+m*(a / m):=by omega
 rw [h3,Int.add_mul_emod_self_left,Int.emod_eq_of_lt (by omega) (by omega)]
theorem emod_succ {m:Int} (hm:0<m) (h:a % m+1<m):(a+1) % m=a % m+1:=by
 have h1:=Int.emod_add_mul_ediv a m;have h2:=Int.emod_nonneg a (show m≠0 by omega);have h3:a+1=(a % m+1)+m*(a / m):=by omega
 rw [h3,Int.add_mul_emod_self_left,Int.emod_eq_of_lt (by omega) (by omega)]
theorem ediv_pred {m:Int} (hm:0<m):(a - m) / m=a / m - 1:=by
 have h:a - m=a+(-1)*m:=by omega
 rw [h,Int.add_mul_ediv_right _ _ (by omega)];omega
theorem ediv_succ {m:Int} (hm:0<m):(a+m) / m=a / m+1:=by
 have h:a+m=a+1*m:=by omega
 rw [h,Int.add_mul_ediv_right _ _ (by omega)]
theorem nextL_symm {m:MZ} (d:Ex m) {k:Int} (h0:0<=k) (h1:k<m.n) (h:x∈zl m k):k∈zl m x:=by
 have D:=d.w1;have o:=d.h1;obtain ⟨l1,l2⟩:=d.layer;unfold MZ.n at h1;simp only [zl,mem_ap,ES,EQ,FF,false_or] at h⊢;rcases h with ((((( ⟨⟨a,b⟩,rfl⟩) | ⟨a,rfl⟩) | ⟨a,rfl⟩) | ⟨a,rfl⟩) | ⟨a,rfl⟩) | ⟨⟨a,b⟩,rfl⟩
 ·refine .inr ⟨⟨by omega,b⟩,by omega⟩
 ·refine .inl (.inr ⟨?_,by omega⟩);rw [ediv_pred (by omega),emod_pred (by omega) a];have:=Int.emod_lt_of_pos (k / m.w) (show 0<m.h by omega);omega
 ·refine .inl (.inl (.inr ⟨?_,by omega⟩));rw [emod_pred (by omega) a];have:=Int.emod_lt_of_pos k (show 0<m.w by omega);omega
 ·refine .inl (.inl (.inl (.inr ⟨?_,by omega⟩)));rw [emod_succ (by omega) a];have:=Int.emod_nonneg k (show m.w≠0 by omega);omega
 ·refine .inl (.inl (.inl (.inl (.inr ⟨?_,by omega⟩))));rw [ediv_succ (by omega),emod_succ (by omega) a];have:=Int.emod_nonneg (k / m.w) (show m.h≠0 by omega);omega
 ·refine .inl (.inl (.inl (.inl (.inl ⟨⟨by omega,?_⟩,by omega⟩))));rw [show k+m.w*m.h - m.w*m.h=k from by omega];exact b
theorem ap_pw {c:Bool} {l:List Int} (h:l.Pairwise (·<·)) (E:c=true->∀y∈l,y<x):(ap c x l).Pairwise (·<·):=by
 unfold ap;cases c
 ·simpa using h
 ·simp only [if_pos];rw [List.pairwise_append];refine ⟨h,by simp,fun a D b o=>?_⟩;rw [Fo] at o;subst o;exact E rfl a D
theorem nextL_pw {m:MZ} (d:Ex m) (k:Int):(zl m k).Pairwise (·<·):=by
 have L:=d.w1;have G:=d.h1
 have hW:m.w<=m.w*m.h:=by
  have:=Int.mul_le_mul_of_nonneg_left G (show 0<=m.w by omega);omega
 have h2:∀{j:Int},0<j % m.h->m.w<m.w*m.h:=by
  intro j I;have h3:=Int.emod_lt_of_pos j (show 0<m.h by omega);have:=Int.mul_le_mul_of_nonneg_left (show 2<=m.h by omega) (show 0<=m.w by omega);omega
 have D:∀{j:Int},j % m.h+1<m.h->m.w<m.w*m.h:=by
  intro j I;have h3:=Int.emod_nonneg j (show m.h≠0 by omega);have:=Int.mul_le_mul_of_nonneg_left (show 2<=m.h by omega) (show 0<=m.w by omega);omega
 unfold zl;refine ap_pw (ap_pw (ap_pw (ap_pw (ap_pw (ap_pw List.Pairwise.nil ?_) ?_) ?_) ?_) ?_) ?_
 ·intro _ y hy;cases hy
 ·intro o y hy;simp only [mem_ap,ES,EQ,FF,false_or] at o hy;have:=h2 o;omega
 ·intro o y hy;simp only [mem_ap,ES,EQ,FF,false_or] at o hy;have J:=Int.emod_lt_of_pos k (show 0<m.w by omega);rcases hy with hy | hy <;> omega
 ·intro o y hy;simp only [mem_ap,ES,EQ,FF,false_or] at o hy;rcases hy with (hy | hy) | hy <;> omega
 ·intro o y hy;simp only [mem_ap,ES,EQ,FF,false_or] at o hy;have E:=Int.emod_nonneg k (show m.w≠0 by omega);rcases hy with ((hy | hy) | hy) | hy <;> omega
 ·intro o y hy;simp only [mem_ap,ES,EQ,FF,false_or] at o hy;have E:=Int.emod_nonneg k (show m.w≠0 by omega);rcases hy with (((hy | hy) | hy) | hy) | hy
  ·omega
  ·omega
  ·omega
  ·omega
  ·have:=D hy.1;omega
theorem reachL_pw (m:MZ) (t:Nat) (f us:List Int):(Cg m t f us).Pairwise (·<·):=by
 unfold Cg;apply List.Pairwise.filter;rw [List.pairwise_map];exact List.Pairwise.imp (fun h=>by simpa using h) List.pairwise_lt_range
theorem Dq {m:MZ} (g:zC m):AO m=0:=by
 have d:=g.dim
 have G:[m.w,m.h,m.l].any side=false:=by
  have h1:=d.w1;have h2:=d.w2;have h3:=d.h1;have I:=d.h2;have J:=d.l1;have L:=d.l2;simp [side];omega
 unfold AO;rw [G,if_neg (by simp),if_neg (by have:=d.n1;have:=g.tk;unfold MZ.n;omega),if_neg,if_neg]
 ·intro h;obtain ⟨t,D,h1⟩:=FM.1 h;rw [FK] at h1;rcases h1 with h1 | h1
  ·obtain ⟨x,o,h2⟩:=FM.1 h1;have:=g.tn t D x (.inl o);simp [zY] at h2;omega
  ·obtain ⟨x,o,h2⟩:=FM.1 h1;have:=g.tn t D x (.inr o);simp [zY] at h2;omega
 ·intro h;rcases h with h | h | h
  ·exact h g.fl
  ·exact h d.up
  ·obtain ⟨f,E,h2⟩:=FM.1 h;have:=g.fn f E;simp at h2;exact h2 this
theorem mazeFree {W:World} {ok:Nat->Prop} {m:MZ} {vfr vup vts:Value} (h:zw W ok (.agg #[.int .i64 m.w,.int .i64 m.h,.int .i64 m.l,vfr,vup,vts]) m) (T:∀f∈m.free,(f.length:Int)=m.n) {t:Nat} (I:t<m.free.length) (h0:0<=n) (h1:n<m.n):
  ∃b off c b' off' l c',vfr=.slice (some ⟨b,off,none⟩) m.free.length c/\W.cell? ⟨b,off+t,none⟩=some (.slice (some ⟨b',off',none⟩) l c')/\n<(l:Int)/\l<=c'/\m.free.length<=c/\W.cell? ⟨b',off'+n.toNat,none⟩=some (.bool (zi m t n)):=by
 obtain ⟨fr',up',ts',he,D,_,_⟩:=h;injection he with he;injection he with he;simp only [List.cons.injEq,and_true,true_and] at he;obtain ⟨rfl,rfl,rfl⟩:=he;obtain ⟨vsf,⟨Af,cf,rfl,M,V⟩,O⟩:=D;obtain ⟨bf,off3,uf,rfl,_,G,J⟩:=Ai V O I I;have Q:=T _ (EH I);obtain ⟨A4,c4,rfl,L,U⟩:=J;have E:n.toNat<(m.free[t]).length:=by omega
 obtain ⟨b4,off4,rfl,_,o⟩:=Cj U E E;have D:(m.free[t])[n.toNat]=zi m t n:=by simp [zi,I,E]
 rw [D] at o;exact ⟨bf,off3,cf,b4,off4,_,c4,rfl,G,by omega,L,M,o⟩
def zt (fr:Int->Bool) (d:Int):List Int->List (Int×Int)->List (Int×Int)
 | [],F=>F
 | x :: l,F=>zt fr d l (if (F.lookup x).isNone && fr x then F++[(x,d)] else F)
def bfs (m:MZ) (fr:Int->Bool):Nat->Nat->List (Int×Int)->List (Int×Int)
 | 0,_,F=>F
 | f+1,k,F=>match F[k]? with
  | none=>F
  | some p=>bfs m fr f (k+1) (zt fr (p.2+1) (zl m p.1) F)
theorem El:F.lookup x=none↔∀p∈F,p.1≠x:=by
 induction F with
 | nil=>simp
 | cons a F ih=>
  obtain ⟨y,d⟩:=a;rw [List.lookup_cons];by_cases h:x=y
  ·subst h;simp
  ·have o:(x==y)=false:=by rw [ET];exact h
   rw [o];simp only [ih,Fw,forall_eq_or_imp];constructor
   ·intro h2;exact ⟨fun e=>h e.symm,h2⟩
   ·exact fun h2=>h2.2
theorem Aj (h:F.lookup x=some d):(x,d)∈F:=by
 induction F with
 | nil=>cases h
 | cons a F ih=>
  obtain ⟨y,e⟩:=a;rw [List.lookup_cons] at h;by_cases h2:x=y
  ·subst h2;simp at h;subst h;exact Ft ..
  ·have o:(x==y)=false:=by rw [ET];exact h2
   rw [o] at h;exact Fa _ (ih h)
theorem CM (G:(F.map Prod.fst).Nodup) (h:(x,d)∈F):F.lookup x=some d:=by
 cases h2:F.lookup x with
 | none=>exact absurd rfl (El.1 h2 _ h)
 | some e=>
  have h3:=Aj h2;congr 1;rw [List.nodup_iff_pairwise_ne,List.pairwise_map] at G;apply Decidable.byContradiction;intro o;obtain ⟨i,D,ei⟩:=Fm h;obtain ⟨j,E,ej⟩:=Fm h3;have hp:=List.pairwise_iff_getElem.1 G;rcases Nat.lt_trichotomy i j with h4 | h4 | h4
  ·exact hp i j D E h4 (by rw [ei,ej])
  ·subst h4;rw [ei] at ej;injection ej with _ e2;exact o e2.symm
  ·exact hp j i E D h4 (by rw [ei,ej])
structure DN (m:MZ) (fr:Int->Bool) (tg:List Int) (k:Nat) (F:List (Int×Int)):Prop where
 nd:(F.map Prod.fst).Nodup
 rg:∀p∈F,(0<=p.1/\p.1<m.n)/\fr p.1=true/\0<=p.2
 bk:∀p∈F,(p.2=0/\p.1∈tg)\/∃q∈F,p.1∈zl m q.1/\p.2=q.2+1
 mono:F.Pairwise (fun a b=>a.2<=b.2)
 near:∀i j:Nat,k<=i->∀p q,F[i]?=some p->F[j]?=some q->q.2<=p.2+1
 cl:∀i,i<k->∀p,F[i]?=some p->∀x∈zl m p.1,fr x=true->∃q∈F,q.1=x/\q.2<=p.2+1
 ini:∀x∈tg,fr x=true->(x,(0:Int))∈F
theorem zL (fr:Int->Bool) (d:Int):∀(l:List Int) (F:List (Int×Int)),∃G,zt fr d l F=F++G/\(∀p∈G,p.2=d/\p.1∈l/\fr p.1=true)/\((F.map Prod.fst).Nodup->((F++G).map Prod.fst).Nodup)/\∀x∈l,fr x=true->∃q∈F++G,q.1=x
 | [],F=>⟨[],by simp [zt],fun p hp=>(by cases hp),fun h=>(by simpa using h),fun x Q=>(by cases Q)⟩
 | x :: l,F=>by
  unfold zt;by_cases o:((F.lookup x).isNone && fr x)=true
  ·rw [if_pos o];rw [ES,Option.isNone_iff_eq_none] at o;obtain ⟨G,h1,h2,h3,E⟩:=zL fr d l (F++[(x,d)]);refine ⟨(x,d) :: G,by rw [h1];simp,fun p hp=>?_,fun O=>?_,fun y hy D=>?_⟩
   ·rcases Fw.1 hp with rfl | hp
    ·exact ⟨rfl,Ft ..,o.2⟩
    ·obtain ⟨a,b,c⟩:=h2 p hp;exact ⟨a,Fa _ b,c⟩
   ·have:(F++(x,d) :: G)=(F++[(x,d)])++G:=by simp
    rw [this];apply h3;rw [Fz,List.nodup_append];refine ⟨O,by simp,fun a M b J e=>?_⟩;subst e;simp at J;subst J;obtain ⟨p,hp,e⟩:=FH.1 M;exact El.1 o.1 p hp e
   ·have e:(F++(x,d) :: G)=(F++[(x,d)])++G:=by simp
    rcases Fw.1 hy with rfl | hy
    ·exact ⟨(y,d),by simp,rfl⟩
    ·rw [e];exact E y hy D
  ·rw [if_neg o];obtain ⟨G,h1,h2,h3,E⟩:=zL fr d l F;refine ⟨G,h1,fun p hp=>?_,h3,fun y hy D=>?_⟩
   ·obtain ⟨a,b,c⟩:=h2 p hp;exact ⟨a,Fa _ b,c⟩
   ·rcases Fw.1 hy with rfl | hy
    ·have L:F.lookup y≠none:=fun e=>o (by rw [e,D];rfl)
     cases I:F.lookup y with
     | none=>exact absurd I L
     | some e=>exact ⟨_,List.mem_append_left _ (Aj I),rfl⟩
    ·exact E y hy D
theorem DN.start {m:MZ} (L:∀x∈tg,0<=x/\x<m.n):DN m fr tg 0 (zt fr 0 tg []):=by
 obtain ⟨G,h1,h2,h3,E⟩:=zL fr 0 tg [];rw [h1,List.nil_append];refine ⟨by simpa using h3 List.nodup_nil,fun p hp=>?_,fun p hp=>.inl ⟨(h2 p hp).1,(h2 p hp).2.1⟩,?_,fun i j _ p q hp o=>?_,fun i D=>by omega,fun x M I=>?_⟩
 ·obtain ⟨a,b,c⟩:=h2 p hp;exact ⟨L _ b,c,by omega⟩
 ·rw [List.pairwise_iff_getElem];intro i j D J _;have:=(h2 _ (EH D)).1;have:=(h2 _ (EH J)).1;omega
 ·have:=(h2 p (List.mem_of_getElem? hp)).1;have:=(h2 q (List.mem_of_getElem? o)).1;omega
 ·obtain ⟨q,o,e⟩:=E x M I;rw [List.nil_append] at o;have:=(h2 q o).1;obtain ⟨a,b⟩:=q;simp only at e this;subst e this;exact o
theorem DN.step {m:MZ} (d:Ex m) (h:DN m fr tg k F) {p:Int×Int} (hp:F[k]?=some p):DN m fr tg (k+1) (zt fr (p.2+1) (zl m p.1) F):=by
 obtain ⟨G,h1,h2,h3,U⟩:=zL fr (p.2+1) (zl m p.1) F;rw [h1];have E:=List.mem_of_getElem? hp;have I:=h.rg p E
 have hk:k<F.length:=by
  rcases Fc k F.length with hk | hk
  ·exact hk
  ·rw [EZ hk] at hp;cases hp
 have D:∀q∈F++G,q.2<=p.2+1:=fun q hq=>by
  rcases Fx.1 hq with hq | hq
  ·obtain ⟨j,Q⟩:=List.getElem?_of_mem hq;exact h.near k j (EG _) p q hp Q
  ·have:=(h2 q hq).1;omega
 refine ⟨h3 h.nd,fun q hq=>?_,fun q hq=>?_,?_,fun i j O a b o M=>?_,fun i O a o x L J=>?_,fun x L J=>List.mem_append_left _ (h.ini x L J)⟩
 ·rcases Fx.1 hq with hq | hq
  ·exact h.rg q hq
  ·obtain ⟨a,b,c⟩:=h2 q hq;exact ⟨An d I.1.1 I.1.2 b,c,by omega⟩
 ·rcases Fx.1 hq with hq | hq
  ·rcases h.bk q hq with h5 | ⟨r,V,h5⟩
   ·exact .inl h5
   ·exact .inr ⟨r,List.mem_append_left _ V,h5⟩
  ·obtain ⟨a,b,c⟩:=h2 q hq;exact .inr ⟨p,List.mem_append_left _ E,b,a⟩
 ·rw [List.pairwise_append];refine ⟨h.mono,?_,fun a o b M=>?_⟩
  ·rw [List.pairwise_iff_getElem];intro i j O Q _;have:=(h2 _ (EH O)).1;have:=(h2 _ (EH Q)).1;omega
  ·have:=D a (List.mem_append_left _ o);have:=(h2 b M).1;omega
 ·-- behind k all distances are at least that of k
  have h5:p.2<=a.2:=by
   rcases Fc i F.length with h6 | h6
   ·rw [EL h6] at o;have T:=List.pairwise_iff_getElem.1 h.mono k i hk h6 (by omega);rw [EE hk] at hp;rw [EE h6] at o;injection hp with hp;injection o with o;rw [hp,o] at T;exact T
   ·rw [EM h6] at o;have:=(h2 a (List.mem_of_getElem? o)).1;omega
  have:=D b (List.mem_of_getElem? M);omega
 ·rcases Fc i k with h5 | h5
  ·rw [EL (by omega)] at o;obtain ⟨q,hq,h6⟩:=h.cl i h5 a o x L J;exact ⟨q,List.mem_append_left _ hq,h6⟩
  ·obtain rfl:i=k:=by omega
   rw [EL hk,hp] at o;injection o with o;subst o;obtain ⟨q,hq,h6⟩:=U x L J;exact ⟨q,hq,h6,D q hq⟩
theorem DN.len {m:MZ} (h:DN m fr tg k F):F.length<=m.n.toNat:=by
 have h1:=Bo h.nd m.n (fun x o=>by
  obtain ⟨p,hp,rfl⟩:=FH.1 o;exact (h.rg p hp).1)
 rw [Fr] at h1;omega
theorem bfs_fi {m:MZ} {fr:Int->Bool} {tg:List Int} (d:Ex m):∀(f k:Nat) (F:List (Int×Int)),DN m fr tg k F->k<=F.length->m.n.toNat<f+k->∃j,DN m fr tg j (bfs m fr f k F)/\j=(bfs m fr f k F).length
 | 0,k,F,h,D,o=>by
  have:=h.len;omega
 | f+1,k,F,h,D,o=>by
  unfold bfs
  cases hp:F[k]? with
  | none=>
   have h1:F.length<=k:=List.getElem?_eq_none_iff.1 hp;exact ⟨k,h,by show k=F.length;omega⟩
  | some p=>
   have E:k<F.length:=by
    rcases Fc k F.length with h1 | h1
    ·exact h1
    ·rw [EZ h1] at hp;cases hp
   obtain ⟨G,h1,-⟩:=zL fr (p.2+1) (zl m p.1) F;exact bfs_fi d f (k+1) _ (h.step d hp) (by rw [h1];simp;omega) (by omega)
def BL (F:List (Int×Int)):List Int->Option Int->Option Int
 | [],b=>b
 | n :: l,b=>BL F l (match F.lookup n with
  | none=>b
  | some d=>match b with
   | none=>some n
   | some c=>if d<(F.lookup c).getD 0\/(d=(F.lookup c).getD 0/\n<c) then some n else some c)
def CU (m:MZ) (F:List (Int×Int)) (b:Int):Int:=((zl m b).find? fun x=>decide (F.lookup x=some ((F.lookup b).getD 0 - 1))).getD b
def Cx (m:MZ) (F:List (Int×Int)):Nat->Int->List Int
 | 0,b=>[b]
 | f+1,b=>b :: Cx m F f (CU m F b)
theorem bestL_none {F:List (Int×Int)}:∀{l:List Int} {b:Option Int},BL F l b=none->b=none/\∀n∈l,F.lookup n=none
 | [],b,h=>⟨h,fun n D=>(by cases D)⟩
 | n :: l,b,h=>by
  unfold BL at h;obtain ⟨h1,h2⟩:=bestL_none h
  cases o:F.lookup n with
  | none=>
   rw [o] at h1;refine ⟨h1,fun x hx=>?_⟩;rcases Fw.1 hx with rfl | hx
   ·exact o
   ·exact h2 x hx
  | some d=>
   rw [o] at h1
   exfalso
   cases b with
   | none=>cases h1
   | some c=>
    simp only at h1
    split at h1 <;> cases h1
theorem CF {F:List (Int×Int)}:∀{l:List Int} {b:Option Int} {r:Int},(∀c,b=some c->∃d,F.lookup c=some d)->BL F l b=some r->∃d,F.lookup r=some d/\(b=some r\/r∈l)/\(∀c e,b=some c->F.lookup c=some e->d<e\/(d=e/\r<=c))/\∀n e,n∈l->F.lookup n=some e->d<e\/(d=e/\r<=n)
 | [],b,r,J,h=>by
  unfold BL at h;subst h;obtain ⟨d,L⟩:=J r rfl;exact ⟨d,L,.inl rfl,fun c e o he=>by injection o with o;subst o;rw [L] at he;injection he with he;exact .inr ⟨he,Int.le_refl _⟩,fun n e O=>(by cases O)⟩
 | n :: l,b,r,J,h=>by
  unfold BL at h
  cases G:F.lookup n with
  | none=>
   rw [G] at h;obtain ⟨d,h1,h2,h3,E⟩:=CF J h;refine ⟨d,h1,h2.imp id (Fa _),h3,fun x e hx he=>?_⟩;rcases Fw.1 hx with rfl | hx
   ·rw [G] at he;cases he
   ·exact E x e hx he
  | some dn=>
   rw [G] at h
   cases b with
   | none=>
    simp only at h;obtain ⟨d,h1,h2,h3,E⟩:=CF (b:=some n) (fun c o=>by injection o with o;subst o;exact ⟨dn,G⟩) h;refine ⟨d,h1,.inr ?_,fun c e o=>(by cases o),fun x e hx he=>?_⟩
    ·rcases h2 with h2 | h2
     ·injection h2 with h2;subst h2;exact Ft ..
     ·exact Fa _ h2
    ·rcases Fw.1 hx with rfl | hx
     ·exact h3 x e rfl he
     ·exact E x e hx he
   | some c=>
    obtain ⟨dc,o⟩:=J c rfl;simp only [o,Fl] at h;by_cases I:dn<dc\/(dn=dc/\n<c)
    ·rw [if_pos I] at h;obtain ⟨d,h1,h2,h3,E⟩:=CF (b:=some n) (fun c o=>by injection o with o;subst o;exact ⟨dn,G⟩) h;have M:=h3 n dn rfl G;refine ⟨d,h1,.inr ?_,fun c' e D he=>?_,fun x e hx he=>?_⟩
     ·rcases h2 with h2 | h2
      ·injection h2 with h2;subst h2;exact Ft ..
      ·exact Fa _ h2
     ·injection D with D;subst D;rw [o] at he;injection he with he;subst he;omega
     ·rcases Fw.1 hx with rfl | hx
      ·exact h3 x e rfl he
      ·exact E x e hx he
    ·rw [if_neg I] at h;obtain ⟨d,h1,h2,h3,E⟩:=CF (b:=some c) (fun c' D=>by injection D with D;subst D;exact ⟨dc,o⟩) h;have M:=h3 c dc rfl o;refine ⟨d,h1,h2.imp id (Fa _),h3,fun x e hx he=>?_⟩;rcases Fw.1 hx with rfl | hx
     ·rw [G] at he;injection he with he;subst he;omega
     ·exact E x e hx he
theorem downN_ok {m:MZ} (d:Ex m) (h:DN m fr tg k F) {b:Int} {f:Nat} (G:F.lookup b=some ((f:Int)+1)):F.lookup (CU m F b)=some (f:Int)/\CU m F b∈zl m b:=by
 have h1:=Aj G;rcases h.bk _ h1 with ⟨h2,-⟩ | ⟨q,I,h2,h3⟩
 ·simp only at h2;omega
 ·simp only at h2 h3;have D:=h.rg q I;have J:=nextL_symm d D.1.1 D.1.2 h2
  have L:F.lookup q.1=some (f:Int):=by
   refine CM h.nd ?_;have:q.2=(f:Int):=by omega
   rw [<-this];exact I
  unfold CU;rw [G,Fl,Int.add_sub_cancel]
  cases o:(zl m b).find? (fun x=>decide (F.lookup x=some (f:Int))) with
  | none=>
   have:=List.find?_eq_none.1 o _ J;rw [L] at this;simp at this
  | some x=>
   have E:=List.find?_some o;rw [EQ] at E;exact ⟨E,List.mem_of_find?_eq_some o⟩
theorem down_spec {m:MZ} {fr:Int->Bool} {tg:List Int} {k:Nat} {F:List (Int×Int)} (d:Ex m) (h:DN m fr tg k F):∀(f:Nat) (b:Int),F.lookup b=some (f:Int)->(Cx m F f b).length=f+1/\(Cx m F f b)[0]?=some b/\(∀(i:Nat) x,(Cx m F f b)[i]?=some x->i<=f/\F.lookup x=some ((f:Int) - i))/\∀(i:Nat) x y,(Cx m F f b)[i]?=some x->(Cx m F f b)[i+1]?=some y->y∈zl m x
 | 0,b,E=>by
  refine ⟨rfl,rfl,fun i x o=>?_,fun i x y o D=>?_⟩
  ·unfold Cx at o
   cases i with
   | zero=>simp at o;subst o;exact ⟨EG _,by simpa using E⟩
   | succ i=>simp at o
  ·unfold Cx at D;simp at D
 | f+1,b,E=>by
  obtain ⟨h1,h2⟩:=downN_ok d h (by exact_mod_cast E:F.lookup b=some ((f:Int)+1));obtain ⟨a1,a2,a3,a4⟩:=down_spec d h f _ h1;unfold Cx;refine ⟨by simp [a1],rfl,fun i x o=>?_,fun i x y o D=>?_⟩
  ·cases i with
   | zero=>simp at o;subst o;exact ⟨EU _,by simpa using E⟩
   | succ i=>
    rw [List.getElem?_cons_succ] at o;obtain ⟨h3,G⟩:=a3 i x o;refine ⟨by omega,?_⟩;rw [G];congr 1;omega
  ·rw [List.getElem?_cons_succ] at D
   cases i with
   | zero=>
    simp at o;subst o;rw [a2] at D;injection D with D;subst D;exact h2
   | succ i=>
    rw [List.getElem?_cons_succ] at o;exact a4 i x y o D
end
section
open Go.RowKit
attribute [local go_sem ↓] Go.wp_at_zero Go.wp_at_succ
def EC (w:World) (ok:Nat->Prop) (p:Nat) (m:MZ) (ch:List Int):Prop:=
 ∃us f u t vc vp gu,(∀x,x∈us↔x∈ch)/\BK w ok p m ch (zP m ch) us f u t vc vp gu
section
variable {w w':World} {ok ok':Nat->Prop} {p:Nat} {m:MZ} {ch:List Int}
theorem EC.keep (h:EC w ok p m ch) (o:zW ok w w'):EC w' ok p m ch:=by
 obtain ⟨us,f,u,t,vc,vp,gu,h1,h2⟩:=h;exact ⟨us,f,u,t,vc,vp,gu,h1,h2.keep o⟩
theorem EC.weaken (h:EC w ok p m ch) (o:∀b,ok b->ok' b):EC w ok' p m ch:=by
 obtain ⟨us,f,u,t,vc,vp,gu,h1,h2⟩:=h;exact ⟨us,f,u,t,vc,vp,gu,h1,h2.weaken o⟩
theorem EC.bound (h:EC w ok p m ch):EC w (fun b=>ok b/\b<w.heap.size) p m ch:=by
 obtain ⟨us,f,u,t,vc,vp,gu,h1,h2⟩:=h;exact ⟨us,f,u,t,vc,vp,gu,h1,h2.bound⟩
theorem EC.ext (h:EC w ok p m ch) (o:zb w w'):EC w' ok p m ch:=h.keep (zW.of_below o)
end
theorem begin_c {ok:Nat->Prop} {v:Value} {m:MZ} (w:World) (hm:zw w ok v m) (o:m.tasks.length<=100000):
  Calls Tryz.prog 83 #[v] w fun e w'=>∃p,e=.returned (.pointer (some ⟨p,0,none⟩))/\zb w w'/\EC w' (fun b=>ok b\/w.heap.size<=b) p m []:=by
 refine (begin_calls w hm o).mono ?_;rintro e w' ⟨v',rfl,D,g,f,u,t,vc,vp,gu,rfl,h⟩;exact ⟨g,rfl,D,[],f,u,t,vc,vp,gu,fun _=>Iff.rfl,h⟩
theorem DS {ok:Nat->Prop} {m:MZ} {ch:List Int} {p:Nat} (w:World) (h:EC w ok p m ch) (g:zC m) (D:Lens m) (o:zx m ch):
  Calls Tryz.prog 64 #[.pointer (some ⟨p,0,none⟩)] w fun e w'=>e=.returned (.bool (zX m ch))/\zK w w':=by
 obtain ⟨us,f,u,t,vc,vp,gu,h1,h2⟩:=h;exact Cy w h2 (o.sok g D)
theorem CY {ok:Nat->Prop} {m:MZ} {ch:List Int} {p:Nat} (w:World) (h:EC w ok p m ch) (g:zC m) (D:Lens m) (o:zx m ch):
  Calls Tryz.prog 84 #[.pointer (some ⟨p,0,none⟩)] w fun e w'=>∃v',e=.returned v'/\Mk w w' v' (cand m ch):=by
 obtain ⟨us,f,u,t,vc,vp,gu,h1,h2⟩:=h;unfold cand;rw [<-candL_congr h1];exact candidates_calls w h2 (o.sok g D)
theorem open_c {ok:Nat->Prop} {m:MZ} {ch:List Int} {p:Nat} (w:World) (h:EC w ok p m ch) (g:zC m) (D:Lens m) (o:zx m ch):
  Calls Tryz.prog 86 #[.pointer (some ⟨p,0,none⟩)] w fun e w'=>e=.returned (.bool (Bb m ch))/\zb w w':=by
 obtain ⟨us,f,u,t,vc,vp,gu,h1,h2⟩:=h;unfold Bb;rw [<-openB_congr h1];exact open_calls w h2 (o.sok g D)
theorem with_c {ok:Nat->Prop} {m:MZ} {ch:List Int} {p:Nat} (w:World) (h:EC w ok p m ch) (g:zC m) (D:Lens m) (o:zx m ch) (E:n∈cand m ch):
  Calls Tryz.prog 85 #[.pointer (some ⟨p,0,none⟩),.int .i64 n] w fun e w'=>∃q,e=.returned (.pointer (some ⟨q,0,none⟩))/\zb w w'/\EC w' (fun b=>(ok b/\b<w.heap.size)\/w.heap.size<=b) q m (ch++[n]):=by
 obtain ⟨us,f,u,t,vc,vp,gu,h1,h2⟩:=h;have hp:=o.psOk.pn (Cp (Cb E));refine (with_calls n w h2.bound (o.sok g D) (o.sok1 g D E) hp).mono ?_;rintro e w' ⟨v',rfl,I,us',h3,q,f',u',t',vc',vp',gu',rfl,G⟩;refine ⟨q,rfl,I,us',f',u',t',vc',vp',gu',fun x=>?_,?_⟩
 ·rw [h3,h1,Fx,Fo];exact Or.comm
 ·rw [DM];exact G
def okR (X Y:Nat->Prop) (g gr:Nat) (b:Nat):Prop:=(X b/\b≠g/\b≠gr)\/Y b
def ptrV (p:Nat):Value:=.pointer (some ⟨p,0,none⟩)
def RtRow (w:World) (X Y:Nat->Prop) (g gr cap:Nat) (m:MZ) (ch:List Int) (ptrs:List Nat):Prop:=
 w.ownsRow 0 97 1 (.slice (some ⟨gr,0,none⟩) ptrs.length cap) ptrs.length (ptrs.map ptrV)/\ptrs.length=ch.length+1/\∀(k p:Nat),ptrs[k]?=some p->EC w (okR X Y g gr) p m (ch.take k)
structure AY (w:World) (X Y:Nat->Prop) (g gr cap:Nat) (m:MZ) (s:RS) (ptrs:List Nat):Prop where
 blk:zk w g 96 #[.slice (some ⟨gr,0,none⟩) ptrs.length cap,.bool s.done,.int .i64 s.steps]
 xg:X g
 xr:X gr
 ne:g≠gr
 yg:¬ Y g
 yr:¬ Y gr
 row:RtRow w X Y g gr cap m s.ch ptrs
structure zp (X:Nat->Prop) (w w':World):Prop where
 os:w'.os=w.os
 tape:w'.tape=w.tape
 output:w'.output=w.output
 size:w.heap.size<=w'.heap.size
 block:∀b,b<w.heap.size->¬ X b->w'.heap[b]?=w.heap[b]?
theorem zp.refl (X:Nat->Prop) (w:World):zp X w w:=⟨rfl,rfl,rfl,EG _,fun _ _ _=>rfl⟩
theorem zp.of_ext {X:Nat->Prop} {w w':World} (h:zb w w'):zp X w w':=⟨h.os,h.tape,h.output,h.size,fun b o _=>h.block b o⟩
theorem zp.trans {X X':Nat->Prop} {a b c:World} (h:zp X a b) (o:zp X' b c) (I:∀k,k<a.heap.size->X' k->X k):zp X a c:=
 ⟨o.os.trans h.os,o.tape.trans h.tape,o.output.trans h.output,EI h.size o.size,fun k D G=>(o.block k (Fh D h.size) (fun E=>G (I k D E))).trans (h.block k D G)⟩
theorem zp.same {X ok:Nat->Prop} {w w':World} (h:zp X w w') (E:∀b,ok b->¬ X b):zW ok w w':=fun b D o=>h.block b o (E b D)
theorem zp.below {X:Nat->Prop} {w w':World} (h:zp X w w') (E:B<=w.heap.size) (o:∀b,X b->B<=b):Below B w w':=
 ⟨h.os,h.tape,h.output,h.size,fun b G=>h.block b (by omega) (fun D=>by have:=o b D;omega)⟩
section
variable {w w':World} {X Y X' Y':Nat->Prop} {g gr cap:Nat} {m:MZ} {s:RS} {ptrs:List Nat} {ch:List Int}
theorem row_keep {n:Nat} {e:TypeId} {size:Nat} (h:w.ownsRow B e size (.slice (some ⟨gr,0,none⟩) n c) n xs) (D:w'.heap[gr]?=w.heap[gr]?):w'.ownsRow B e size (.slice (some ⟨gr,0,none⟩) n c) n xs:=by
 obtain ⟨G,⟨h0,_⟩ | ⟨g',cap',cur,o,h1,h2,h3⟩⟩:=h
 ·cases h0
 ·have E:g'=gr:=by injection o with o;injection o with o;injection o with o;exact o.symm
  subst E;exact ⟨G,.inr ⟨g',cap',cur,o,h1,D.trans h2,h3⟩⟩
theorem row_shrink {n:Nat} {e:TypeId} (h:w.ownsRow B e 1 (.slice (some ⟨gr,0,none⟩) n c) n xs) (L:k<=n):w.ownsRow B e 1 (.slice (some ⟨gr,0,none⟩) k c) k (xs.take k):=by
 obtain ⟨J,⟨h0,_⟩ | ⟨g',cap',cur,o,h1,h2,h3,D,E,G⟩⟩:=h
 ·cases h0
 ·injection o with o M I;injection o with o;injection o with o;subst o I;refine ⟨by rw [FA,J];omega,.inr ⟨gr,c,cur,rfl,h1,h2,by omega,D,E,?_⟩⟩;rw [<-G,List.take_take];congr 1;omega
theorem RtRow.keep (h:RtRow w X Y g gr cap m ch ptrs) (I:∀b,b<w.heap.size->(X b/\b≠g)\/Y b->w'.heap[b]?=w.heap[b]?) (D:X gr) (G:g≠gr):RtRow w' X Y g gr cap m ch ptrs:=by
 obtain ⟨h1,h2,h3⟩:=h;have o:gr<w.heap.size:=(h1.lt gr rfl).2;refine ⟨row_keep h1 (I gr o (.inl ⟨D,Ne.symm G⟩)),h2,fun k p hp=>(h3 k p hp).keep fun b hb E=>I b E ?_⟩;rcases hb with hb | hb
 ·exact .inl ⟨hb.1,hb.2.1⟩
 ·exact .inr hb
theorem RtRow.last (h:RtRow w X Y g gr cap m ch ptrs):∃p,ptrs[ch.length]?=some p/\EC w (okR X Y g gr) p m ch/\w.cell? ⟨gr,ch.length,none⟩=some (ptrV p):=by
 obtain ⟨h1,h2,h3⟩:=h;have o:ch.length<ptrs.length:=by omega
 refine ⟨ptrs[ch.length],EE o,by have:=h3 _ _ (EE o);rwa [ER] at this,?_⟩;rw [World.ownsRow.cellAt h1 _ (by omega),Fq,EE o];rfl
theorem AY.same (h:AY w X Y g gr cap m s ptrs) (o:∀b,b<w.heap.size->X b\/Y b->w'.heap[b]?=w.heap[b]?):AY w' X Y g gr cap m s ptrs:=
 ⟨(o g (zd h.blk) (.inl h.xg)).trans h.blk,h.xg,h.xr,h.ne,h.yg,h.yr,h.row.keep (fun b D hx=>o b D (by rcases hx with hx | hx;exact .inl hx.1;exact .inr hx)) h.xr h.ne⟩
theorem AY.ext (h:AY w X Y g gr cap m s ptrs) (o:zb w w'):AY w' X Y g gr cap m s ptrs:=h.same fun b D _=>o.block b D
end
end
end Go.Proofs.YthbjngbhbbkkgaaGreat
