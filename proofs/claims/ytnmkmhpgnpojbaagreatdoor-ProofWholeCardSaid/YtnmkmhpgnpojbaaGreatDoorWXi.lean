import Derived.Test.YtnmkmhpgnpojbaaGreatDoorWXh
import Derived.Lib.ItoaLen
import Derived.Maps.AppendAt
set_option linter.unusedVariables false
set_option linter.unusedSimpArgs false
set_option maxRecDepth 100000
set_option maxHeartbeats 16000000
namespace Go.Proofs.YtnmkmhpgnpojbaaGreatDoor
variable {b n:Int} {l:List Int} {bs xs:List Value} {B c j k:Nat} {e:Nat->Bool} {V:Nat->Value->World->Prop} {o:Obj} {v x:Value} {W' a w0:World}
section
open Go.RowKit
def zC (m:MZ) (ch:List Int):List (List Int):=ch.foldl (AW m) (ps0 m)
def cand (m:MZ) (ch:List Int):List Int:=Bu m (zC m ch) ch
def zL (m:MZ) (ch:List Int):Bool:=cmpB m (zC m ch)
noncomputable def Ay (m:MZ) (ch:List Int):Bool:=openB m (zC m ch) ch
theorem psOf_nil (m:MZ):zC m []=ps0 m:=rfl
theorem CC (m:MZ) (ch:List Int) (n:Int):zC m (ch++[n])=AW m (zC m ch) n:=by simp [zC,List.foldl_append]
section
variable {m:MZ} {ps:List (List Int)} {us us':List Int}
theorem dec_congr (h:∀x,x∈us↔x∈us') (n:Int):decide (n∈us)=decide (n∈us'):=by rw [decide_eq_decide];exact h n
theorem candL_congr (h:∀x,x∈us↔x∈us'):Bu m ps us=Bu m ps us':=by
 unfold Bu;simp only [zD,dec_congr h]
 have:(fun n=>zD m us (ps.length - 1) (ps.getD (ps.length - 1) []).dropLast (m.tasks.getD (ps.length - 1) ([],[])).1 n)=(fun n=>zD m us' (ps.length - 1) (ps.getD (ps.length - 1) []).dropLast (m.tasks.getD (ps.length - 1) ([],[])).1 n):=by
  funext n;simp only [zD,dec_congr h]
 have d:zD m us (ps.length - 1) (ps.getD (ps.length - 1) []).dropLast (m.tasks.getD (ps.length - 1) ([],[])).1=zD m us' (ps.length - 1) (ps.getD (ps.length - 1) []).dropLast (m.tasks.getD (ps.length - 1) ([],[])).1:=this;rw [d]
theorem fromL_congr (h:∀x,x∈us↔x∈us') (t:Nat):AK m ps us t=AK m ps us' t:=by
 unfold AK;simp only [dec_congr h]
theorem reachL_congr (h:∀x,x∈us↔x∈us') (t:Nat) (f:List Int):Bh m t f us=Bh m t f us':=by
 unfold Bh;apply List.filter_congr;intro x _;rw [decide_eq_decide];exact ⟨fun d=>d.congr (fun _=>Iff.rfl) h,fun d=>d.congr (fun _=>Iff.rfl) (fun x=>(h x).symm)⟩
theorem openB_congr (h:∀x,x∈us↔x∈us'):openB m ps us=openB m ps us':=by
 unfold openB openT;simp only [fromL_congr h,reachL_congr h]
end
inductive zr (m:MZ):List Int->Prop
 | nil:zr m []
 | snoc {ch:List Int} {n:Int}:zr m ch->n∈cand m ch->zr m (ch++[n])
theorem BO {m:MZ} {ch:List Int} (h:n∈cand m ch):zL m ch=false:=by
 unfold cand Bu at h;unfold zL
 cases d:cmpB m (zC m ch)
 ·rfl
 ·rw [if_pos d] at h;cases h
theorem Bq {m:MZ} {ps:List (List Int)} (h:cmpB m ps=false):0<m.tasks.length:=by
 rcases Ec m.tasks.length with h0 | h0
 ·unfold cmpB at h;rw [Du h0] at h;cases h
 ·exact h0
structure PsOk (m:MZ) (ch:List Int) (ps:List (List Int)):Prop where
 pl:ps.length<=m.tasks.length
 pn:0<m.tasks.length->0<ps.length
 fl:ps.flatten=ch
theorem getD_mem {α:Type} {l:List (List α)} (h:k<l.length):l.getD k []∈l:=by
 rw [Dp,Do h];exact Dr h
theorem addN_eq {ps:List (List Int)} (hp:0<ps.length) (n:Int):∃qs p,ps=qs++[p]/\Bo ps n=qs++[p++[n]]:=by
 rcases List.eq_nil_or_concat ps with rfl | ⟨qs,p,rfl⟩
 ·simp at hp
 ·refine ⟨qs,p,by simp,?_⟩;unfold Bo;rw [List.concat_eq_append,Dz,DR,Nat.add_sub_cancel,List.set_append_right _ _ (Dq _)];simp
theorem Cc {ps:List (List Int)}:(Bo ps n).length=ps.length:=by unfold Bo;simp
theorem addN_flat {ps:List (List Int)} (hp:0<ps.length) (n:Int):(Bo ps n).flatten=ps.flatten++[n]:=by
 obtain ⟨qs,p,rfl,h⟩:=addN_eq hp n;rw [h];simp
theorem withPs_flat {m:MZ} {ps:List (List Int)} (hp:0<ps.length) (n:Int):(AW m ps n).flatten=ps.flatten++[n]:=by
 unfold AW
 split
 ·rw [List.flatten_append,addN_flat hp];simp
 ·exact addN_flat hp n
theorem PsOk.step {m:MZ} {ch:List Int} {ps:List (List Int)} (h:PsOk m ch ps) (ht:0<m.tasks.length) (n:Int):PsOk m (ch++[n]) (AW m ps n):=by
 have hp:=h.pn ht;refine ⟨?_,fun _=>?_,?_⟩
 ·unfold AW
  split
  ·rename_i d
   simp only [Dz,Cc,DR];omega
  ·rw [Cc];exact h.pl
 ·unfold AW
  split <;> simp [Cc] <;> omega
 ·rw [withPs_flat hp,h.fl]
theorem psOk_nil (m:MZ):PsOk m [] (zC m []):=by
 rw [psOf_nil];unfold ps0
 split
 ·rename_i h;exact ⟨by simp,fun d=>by omega,rfl⟩
 ·rename_i h;exact ⟨by simp;omega,fun _=>by simp,rfl⟩
theorem zr.psOk {m:MZ} {ch:List Int} (h:zr m ch):PsOk m ch (zC m ch):=by
 induction h with
 | nil=>exact psOk_nil m
 | snoc h d ih=>rw [CC];exact ih.step (Bq (BO d)) _
theorem mem_flat_last {ps:List (List Int)} {x:Int} (D:(ps.getD k []).getLast?=some x):x∈ps.flatten:=by
 have d:x∈ps.getD k []:=List.mem_of_getLast? D;by_cases z:k<ps.length
 ·exact List.mem_flatten.2 ⟨_,getD_mem z,d⟩
 ·rw [Dp,DL (by omega)] at d;cases d
theorem cand_range {m:MZ} (g:zE m) {ch:List Int} (K:∀x∈ch,0<=x/\x<m.n) (hf:(zC m ch).flatten=ch) (h:n∈cand m ch):0<=n/\n<m.n/\n∉ch:=by
 have ht:=Bq (BO h);have D:=BO h;unfold zL at D;unfold cand Bu at h;rw [if_neg (by rw [D];simp)] at h
 split at h
 ·obtain ⟨G,z⟩:=Ep.1 h;have d:=mem_sortL.1 (Db G);simp only [DD,Bool.not_eq_true',DP] at z;by_cases J:(zC m ch).length - 1<m.tasks.length
  ·rw [Dp,Do J] at d;have:=g.tn _ (Dr J) n (.inl d);exact ⟨this.1,this.2,z.2⟩
  ·rw [Dp,DL (by omega)] at d;cases d
 ·rename_i x L
  obtain ⟨G,z⟩:=Ep.1 h;have I:x∈ch:=by rw [<-hf];exact mem_flat_last L
  have E:=K x I;have d:=Ba g.dim E.1 E.2 G;unfold zD at z;simp only [DD,Bool.not_eq_true',DP] at z;exact ⟨d.1,d.2,z.1.1.2⟩
theorem zr.range {m:MZ} (g:zE m) {ch:List Int} (h:zr m ch):(∀x∈ch,0<=x/\x<m.n)/\ch.Nodup:=by
 induction h with
 | nil=>exact ⟨fun x hx=>absurd hx Eo,List.nodup_nil⟩
 | snoc h E ih=>
  have d:=cand_range g ih.1 h.psOk.fl E;refine ⟨fun x hx=>?_,?_⟩
  ·rcases Eg.1 hx with hx | hx
   ·exact ih.1 x hx
   ·rw [DY] at hx;subst hx;exact ⟨d.1,d.2.1⟩
  ·rw [List.nodup_append];refine ⟨ih.2,by simp,fun a D b z=>?_⟩;rw [DY] at z;subst z;rintro rfl;exact d.2.2 D
theorem zr.len {m:MZ} (g:zE m) {ch:List Int} (h:zr m ch):ch.length<=m.n.toNat:=Bx (h.range g).2 m.n (h.range g).1
theorem flat_le {ps:List (List Int)} {p:List Int} (h:p∈ps):p.length<=ps.flatten.length:=by
 induction ps with
 | nil=>cases h
 | cons q qs ih=>
  rw [List.flatten_cons,Dz];rcases Ef.1 h with rfl | h
  ·omega
  ·have:=ih h;omega
theorem sok_of {m:MZ} (g:zE m) (z:Lens m) {ch:List Int} {ps:List (List Int)} (h:PsOk m ch ps) (D:∀x∈ch,0<=x/\x<m.n) (d:ch.length<=1000):SOk m ch ps:=
 ⟨g,z,h.pl,h.pn,fun p hp=>by have:=flat_le hp;rw [h.fl] at this;omega,fun p hp x E=>D x (by rw [<-h.fl];exact List.mem_flatten.2 ⟨p,hp,E⟩),d⟩
theorem zr.len300 {m:MZ} (g:zE m) {ch:List Int} (h:zr m ch):ch.length<=300:=by
 have d:=h.len g;have z:=g.dim.n1;have D:m.n=m.w*m.h*m.l:=rfl;omega
theorem zr.sok {m:MZ} (g:zE m) (d:Lens m) {ch:List Int} (h:zr m ch):SOk m ch (zC m ch):=
 sok_of g d h.psOk (h.range g).1 (by have:=h.len300 g;omega)
theorem zr.sok1 {m:MZ} (g:zE m) (E:Lens m) {ch:List Int} (h:zr m ch) (D:n∈cand m ch):SOk m (ch++[n]) (Bo (zC m ch) n):=by
 have d:=h.psOk;have ht:=Bq (BO D);have z:=zr.snoc h D;refine sok_of g E ⟨by rw [Cc];exact d.pl,fun h=>by rw [Cc];exact d.pn h,by rw [addN_flat (d.pn ht),d.fl]⟩ (z.range g).1 (by have:=z.len300 g;omega)
theorem Cy {m:MZ} (z:Lens m) (ch:List Int):(cand m ch).length<=400000000000:=by
 unfold cand Bu
 split
 ·simp
 ·split
  ·refine Dt (DU _ _) (Dt (compact_len _) ?_);unfold AG;rw [List.length_mergeSort];by_cases d:(zC m ch).length - 1<m.tasks.length
   ·rw [Dp,Do d];exact (z.tl _ (Dr d)).1
   ·rw [Dp,DL (by omega)];simp
  ·refine Dt (DU _ _) ?_;have:=CB m;exact Dt (this _) (by omega)
noncomputable def aft (m:MZ) (ch:List Int) (last:Int):Option Int:=(cand m ch).find? fun n=>decide (last<n) && Ay m (ch++[n])
noncomputable def backN (m:MZ) (ch:List Int):Nat->Option (List Int)
 | 0=>none
 | k+1=>match aft m (ch.take k) (ch.getD k 0) with
  | some n=>some (ch.take k++[n])
  | none=>backN m ch k
noncomputable def stepC (m:MZ) (ch:List Int):Option (List Int):=
 match aft m ch (-1) with
 | some n=>some (ch++[n])
 | none=>backN m ch ch.length
structure RS where
 ch:List Int
 done:Bool
 steps:Int
noncomputable def RS.one (m:MZ) (s:RS):RS:=match stepC m s.ch with
 | some c=>⟨c,zL m c,s.steps+1⟩
 | none=>⟨[],true,s.steps+1⟩
noncomputable def RS.run (m:MZ):Nat->RS->RS
 | 0,s=>s
 | n+1,s=>if s.done=true then s else RS.run m n (s.one m)
theorem RS.run_done {m:MZ} {s:RS} (h:s.done=true):∀n,RS.run m n s=s
 | 0=>rfl
 | n+1=>by simp [RS.run,h]
theorem zr.take {m:MZ} {ch:List Int} (h:zr m ch) (k:Nat):zr m (ch.take k):=by
 induction h with
 | nil=>simpa using zr.nil
 | @snoc ch n h d ih=>
  rcases DO ch.length k with hk | hk
  ·rw [List.take_of_length_le (by simp;omega)];exact .snoc h d
  ·rw [List.take_append_of_le_length hk];exact ih
theorem zr.at {m:MZ} {ch:List Int} (h:zr m ch) {k:Nat} (d:k<ch.length):ch[k]∈cand m (ch.take k):=by
 induction h with
 | nil=>simp at d
 | @snoc ch n h D ih=>
  rcases DO k ch.length with h1 | h1
  ·rw [List.getElem_append_left h1,List.take_append_of_le_length (by omega)];exact ih h1
  ·have z:k=ch.length:=by simp at d;omega
   subst z;rw [List.getElem_append_right (Dq _),List.take_append_of_le_length (Dq _),DC];simpa using D
theorem aft_some {m:MZ} {ch:List Int} {last:Int} (h:aft m ch last=some n):n∈cand m ch/\last<n/\Ay m (ch++[n])=true:=by
 unfold aft at h;have d:=List.find?_some h;simp only [DD,DB] at d;exact ⟨List.mem_of_find?_eq_some h,d.1,d.2⟩
theorem backN_some {m:MZ} {ch:List Int} (h:zr m ch):∀{k:Nat} {c:List Int},backN m ch k=some c->zr m c/\0<c.length/\Ay m c=true
 | 0,c,d=>by cases d
 | k+1,c,d=>by
  unfold backN at d
  split at d
  ·rename_i n E
   injection d with d;subst d;obtain ⟨z,_,D⟩:=aft_some E;exact ⟨.snoc (h.take k) z,by simp,D⟩
  ·exact backN_some h d
theorem stepC_some {m:MZ} {ch c:List Int} (h:zr m ch) (d:stepC m ch=some c):zr m c/\0<c.length/\Ay m c=true:=by
 unfold stepC at d
 split at d
 ·rename_i n E
  injection d with d;subst d;obtain ⟨z,_,D⟩:=aft_some E;exact ⟨.snoc h z,by simp,D⟩
 ·exact backN_some h d
end
section
open Go.RowKit
attribute [local go_sem ↓] Go.wp_at_zero Go.wp_at_succ
def Dl (w:World) (ok:Nat->Prop) (p:Nat) (m:MZ) (ch:List Int):Prop:=
 ∃us f u t vc vp gu,(∀x,x∈us↔x∈ch)/\AJ w ok p m ch (zC m ch) us f u t vc vp gu
section
variable {w w':World} {ok ok':Nat->Prop} {p:Nat} {m:MZ} {ch:List Int}
theorem Dl.keep (h:Dl w ok p m ch) (D:zN ok w w'):Dl w' ok p m ch:=by
 obtain ⟨us,f,u,t,vc,vp,gu,d,z⟩:=h;exact ⟨us,f,u,t,vc,vp,gu,d,z.keep D⟩
theorem Dl.weaken (h:Dl w ok p m ch) (D:∀b,ok b->ok' b):Dl w ok' p m ch:=by
 obtain ⟨us,f,u,t,vc,vp,gu,d,z⟩:=h;exact ⟨us,f,u,t,vc,vp,gu,d,z.weaken D⟩
theorem Dl.bound (h:Dl w ok p m ch):Dl w (fun b=>ok b/\b<w.heap.size) p m ch:=by
 obtain ⟨us,f,u,t,vc,vp,gu,d,z⟩:=h;exact ⟨us,f,u,t,vc,vp,gu,d,z.bound⟩
theorem Dl.ext (h:Dl w ok p m ch) (d:zb w w'):Dl w' ok p m ch:=h.keep (zN.of_below d)
end
theorem begin_c {ok:Nat->Prop} {m:MZ} (w:World) (hm:zF w ok v m) (d:m.tasks.length<=100000):
  Calls Tryz.prog 160 #[v] w fun e w'=>∃p,e=.returned (.pointer (some ⟨p,0,none⟩))/\zb w w'/\Dl w' (fun b=>ok b\/w.heap.size<=b) p m []:=by
 refine (begin_calls w hm d).mono ?_;rintro e w' ⟨v',rfl,z,g,f,u,t,vc,vp,gu,rfl,h⟩;exact ⟨g,rfl,z,[],f,u,t,vc,vp,gu,fun _=>Iff.rfl,h⟩
theorem CK {ok:Nat->Prop} {m:MZ} {ch:List Int} {p:Nat} (w:World) (h:Dl w ok p m ch) (g:zE m) (D:Lens m) (z:zr m ch):
  Calls Tryz.prog 96 #[.pointer (some ⟨p,0,none⟩)] w fun e w'=>e=.returned (.bool (zL m ch))/\zB w w':=by
 obtain ⟨us,f,u,t,vc,vp,gu,E,d⟩:=h;exact BD w d (z.sok g D)
theorem BX {ok:Nat->Prop} {m:MZ} {ch:List Int} {p:Nat} (w:World) (h:Dl w ok p m ch) (g:zE m) (E:Lens m) (D:zr m ch):
  Calls Tryz.prog 161 #[.pointer (some ⟨p,0,none⟩)] w fun e w'=>∃v',e=.returned v'/\Mk w w' v' (cand m ch):=by
 obtain ⟨us,f,u,t,vc,vp,gu,d,z⟩:=h;unfold cand;rw [<-candL_congr d];exact candidates_calls w z (D.sok g E)
theorem open_c {ok:Nat->Prop} {m:MZ} {ch:List Int} {p:Nat} (w:World) (h:Dl w ok p m ch) (g:zE m) (E:Lens m) (D:zr m ch):
  Calls Tryz.prog 163 #[.pointer (some ⟨p,0,none⟩)] w fun e w'=>e=.returned (.bool (Ay m ch))/\zb w w':=by
 obtain ⟨us,f,u,t,vc,vp,gu,d,z⟩:=h;unfold Ay;rw [<-openB_congr d];exact open_calls w z (D.sok g E)
theorem with_c {ok:Nat->Prop} {m:MZ} {ch:List Int} {p:Nat} (w:World) (h:Dl w ok p m ch) (g:zE m) (z:Lens m) (d:zr m ch) (D:n∈cand m ch):
  Calls Tryz.prog 162 #[.pointer (some ⟨p,0,none⟩),.int .i64 n] w fun e w'=>∃q,e=.returned (.pointer (some ⟨q,0,none⟩))/\zb w w'/\Dl w' (fun b=>(ok b/\b<w.heap.size)\/w.heap.size<=b) q m (ch++[n]):=by
 obtain ⟨us,f,u,t,vc,vp,gu,E,G⟩:=h;have hp:=d.psOk.pn (Bq (BO D));refine (with_calls n w G.bound (d.sok g z) (d.sok1 g z D) hp).mono ?_;rintro e w' ⟨v',rfl,K,us',I,q,f',u',t',vc',vp',gu',rfl,J⟩;refine ⟨q,rfl,K,us',f',u',t',vc',vp',gu',fun x=>?_,?_⟩
 ·rw [I,E,Eg,DY];exact Or.comm
 ·rw [CC];exact J
def okR (X Y:Nat->Prop) (g gr:Nat) (b:Nat):Prop:=(X b/\b≠g/\b≠gr)\/Y b
def ptrV (p:Nat):Value:=.pointer (some ⟨p,0,none⟩)
def RtRow (w:World) (X Y:Nat->Prop) (g gr cap:Nat) (m:MZ) (ch:List Int) (ptrs:List Nat):Prop:=
 w.ownsRow 0 149 1 (.slice (some ⟨gr,0,none⟩) ptrs.length cap) ptrs.length (ptrs.map ptrV)/\ptrs.length=ch.length+1/\∀(k p:Nat),ptrs[k]?=some p->Dl w (okR X Y g gr) p m (ch.take k)
structure Ad (w:World) (X Y:Nat->Prop) (g gr cap:Nat) (m:MZ) (s:RS) (ptrs:List Nat):Prop where
 blk:ze w g 148 #[.slice (some ⟨gr,0,none⟩) ptrs.length cap,.bool s.done,.int .i64 s.steps]
 xg:X g
 xr:X gr
 ne:g≠gr
 yg:¬ Y g
 yr:¬ Y gr
 row:RtRow w X Y g gr cap m s.ch ptrs
structure zi (X:Nat->Prop) (w w':World):Prop where
 os:w'.os=w.os
 tape:w'.tape=w.tape
 output:w'.output=w.output
 size:w.heap.size<=w'.heap.size
 block:∀b,b<w.heap.size->¬ X b->w'.heap[b]?=w.heap[b]?
theorem zi.refl (X:Nat->Prop) (w:World):zi X w w:=⟨rfl,rfl,rfl,Dq _,fun _ _ _=>rfl⟩
theorem zi.of_ext {X:Nat->Prop} {w w':World} (h:zb w w'):zi X w w':=⟨h.os,h.tape,h.output,h.size,fun b d _=>h.block b d⟩
theorem zi.trans {X X':Nat->Prop} {a b c:World} (h:zi X a b) (d:zi X' b c) (G:∀k,k<a.heap.size->X' k->X k):zi X a c:=
 ⟨d.os.trans h.os,d.tape.trans h.tape,d.output.trans h.output,Dt h.size d.size,fun k z E=>(d.block k (DT z h.size) (fun D=>E (G k z D))).trans (h.block k z E)⟩
theorem zi.same {X ok:Nat->Prop} {w w':World} (h:zi X w w') (D:∀b,ok b->¬ X b):zN ok w w':=fun b z d=>h.block b d (D b z)
theorem zi.below {X:Nat->Prop} {w w':World} (h:zi X w w') (D:B<=w.heap.size) (d:∀b,X b->B<=b):Below B w w':=
 ⟨h.os,h.tape,h.output,h.size,fun b E=>h.block b (by omega) (fun z=>by have:=d b z;omega)⟩
section
variable {w w':World} {X Y X' Y':Nat->Prop} {g gr cap:Nat} {m:MZ} {s:RS} {ptrs:List Nat} {ch:List Int}
theorem row_keep {n:Nat} {e:TypeId} {size:Nat} (h:w.ownsRow B e size (.slice (some ⟨gr,0,none⟩) n c) n xs) (G:w'.heap[gr]?=w.heap[gr]?):w'.ownsRow B e size (.slice (some ⟨gr,0,none⟩) n c) n xs:=by
 obtain ⟨J,⟨h0,_⟩ | ⟨g',cap',cur,d,z,D,E⟩⟩:=h
 ·cases h0
 ·have I:g'=gr:=by injection d with d;injection d with d;injection d with d;exact d.symm
  subst I;exact ⟨J,.inr ⟨g',cap',cur,d,z,G.trans D,E⟩⟩
theorem row_shrink {n:Nat} {e:TypeId} (h:w.ownsRow B e 1 (.slice (some ⟨gr,0,none⟩) n c) n xs) (M:k<=n):w.ownsRow B e 1 (.slice (some ⟨gr,0,none⟩) k c) k (xs.take k):=by
 obtain ⟨K,⟨h0,_⟩ | ⟨g',cap',cur,d,z,D,L,E,G,I⟩⟩:=h
 ·cases h0
 ·injection d with d O J;injection d with d;injection d with d;subst d J;refine ⟨by rw [Ej,K];omega,.inr ⟨gr,c,cur,rfl,z,D,by omega,E,G,?_⟩⟩;rw [<-I,List.take_take];congr 1;omega
theorem RtRow.keep (h:RtRow w X Y g gr cap m ch ptrs) (I:∀b,b<w.heap.size->(X b/\b≠g)\/Y b->w'.heap[b]?=w.heap[b]?) (z:X gr) (E:g≠gr):RtRow w' X Y g gr cap m ch ptrs:=by
 obtain ⟨G,J,K⟩:=h;have d:gr<w.heap.size:=(G.lt gr rfl).2;refine ⟨row_keep G (I gr d (.inl ⟨z,Ne.symm E⟩)),J,fun k p hp=>(K k p hp).keep fun b hb D=>I b D ?_⟩;rcases hb with hb | hb
 ·exact .inl ⟨hb.1,hb.2.1⟩
 ·exact .inr hb
theorem RtRow.last (h:RtRow w X Y g gr cap m ch ptrs):∃p,ptrs[ch.length]?=some p/\Dl w (okR X Y g gr) p m ch/\w.cell? ⟨gr,ch.length,none⟩=some (ptrV p):=by
 obtain ⟨z,E,D⟩:=h;have d:ch.length<ptrs.length:=by omega
 refine ⟨ptrs[ch.length],Do d,by have:=D _ _ (Do d);rwa [DC] at this,?_⟩;rw [World.ownsRow.cellAt z _ (by omega),Ea,Do d];rfl
theorem Ad.same (h:Ad w X Y g gr cap m s ptrs) (d:∀b,b<w.heap.size->X b\/Y b->w'.heap[b]?=w.heap[b]?):Ad w' X Y g gr cap m s ptrs:=
 ⟨(d g (za h.blk) (.inl h.xg)).trans h.blk,h.xg,h.xr,h.ne,h.yg,h.yr,h.row.keep (fun b z hx=>d b z (by rcases hx with hx | hx;exact .inl hx.1;exact .inr hx)) h.xr h.ne⟩
theorem Ad.ext (h:Ad w X Y g gr cap m s ptrs) (d:zb w w'):Ad w' X Y g gr cap m s ptrs:=h.same fun b z _=>d.block b z
end
end
section
open Go.RowKit Go.Shelf
attribute [local go_sem ↓] Go.wp_at_zero Go.wp_at_succ
abbrev Bui (B:Nat) (bs:List Value) (w:World):Prop:=Lib.IsBuilderF 173 5 B B bs w
abbrev BuiU (B:Nat) (bs:List Value) (w:World):Prop:=Lib.BuilderAtF 173 5 B B (.pointer (some ⟨B,0,none⟩)) bs w
theorem Bui.old {w w':World} (h:Bui B bs w) (d:zb w w'):Bui B bs w':=by
 have f:∀p,Lib.BuilderAtF 173 5 B B p bs w->Lib.BuilderAtF 173 5 B B p bs w':=fun p h=>by
  have D:=h.lt;obtain ⟨G,v,I,z,E⟩:=h;exact ⟨G,v,(d.block B D).trans I,z.kept (row:=none) ⟨d.os,d.tape,d.output,d.size,fun k J _=>d.block k J⟩ (by cases h:v.ownBlock <;> simp),E⟩
 exact h.imp (f _) (f _)
theorem Bui.new (w:World):Bui w.heap.size [] (w.alloc (.cells #[.pointer none,.slice none 0 0] 173)):=Lib.IsBuilderF.of (Lib.fresh_isBuilder _ _ w)
theorem ptrInfo:∃j,Tryz.prog.info? 173=some j/\j.size=2:=Option.map_eq_some_iff.1 sExt.sizeBuilder
theorem ccUsed (B:Nat) (w:World) (h0:w.cell? ⟨B,0,none⟩=some (.pointer (some ⟨B,0,none⟩))):Calls Tryz.prog 177 #[.pointer (some ⟨B,0,none⟩)] w fun e w'=>e=.returned (.tuple #[])/\w=w':=by
 obtain ⟨j,d,-⟩:=ptrInfo;have z:=Lib.run_neq_ptr_same w ⟨B,0,none⟩ Tryz.underlying171 d
 go_enter Tryz.func177,Tryz.ntmps177
 go_wp2;exact bodyPost_end (results_none rfl _ _ _) rfl ⟨rfl,rfl⟩
theorem ccNew (B:Nat) (w:World) (h0:w.cell? ⟨B,0,none⟩=some (.pointer none)) (D:w.shape? B=some (173,2)) (hf:w.frozen? ⟨B,0,none⟩=false):Calls Tryz.prog 177 #[.pointer (some ⟨B,0,none⟩)] w fun e w'=>e=.returned (.tuple #[])/\w'=w.setCell ⟨B,0,none⟩ (.pointer (some ⟨B,0,none⟩)):=by
 obtain ⟨j,z,d⟩:=ptrInfo;have c1:=Lib.run_to_unsafe w ⟨B,0,none⟩ Tryz.underlying171 Tryz.underlying258 z (by rw [d];decide) D (Nat.zero_lt_succ 1);have c2:=run_callFunc_extern Tryz.func225 (by kernel_rfl) (by kernel_rfl) (by kernel_rfl) (e:=Extern.AbiNoEscape.same) (by kernel_rfl) (args:=#[.pointer (some ⟨B,0,none⟩)]) (w:=w);have c3:=Lib.run_from_unsafe w ⟨B,0,none⟩ Tryz.underlying258 Tryz.underlying171 z D sExt.liesBuilder;rw [Lib.run_noEscape] at c2
 go_enter Tryz.func177,Tryz.ntmps177
 go_wp2;exact bodyPost_end (results_none rfl _ _ _) rfl ⟨rfl,rfl⟩
theorem cc_calls {w:World} (h:Bui B bs w):Calls Tryz.prog 177 #[.pointer (some ⟨B,0,none⟩)] w fun e w'=>e=.returned (.tuple #[])/\BuiU B bs w'/\Below B w w':=by
 rcases h with h | h
 ·refine (ccNew B w h.cell0 h.shape h.frozen0).mono ?_;rintro e w' ⟨rfl,rfl⟩;exact ⟨rfl,h.used _,(Below.refl B w).setCell (p:=⟨B,0,none⟩) (Dq _) _⟩
 ·refine (ccUsed B w h.cell0).mono ?_;rintro e w' ⟨rfl,rfl⟩;exact ⟨rfl,h,Below.refl B w⟩
theorem lt_heap {w:World} {b:Nat} (h:w.heap[b]?=some o):b<w.heap.size:=(En.1 h).1
theorem wByte_calls {w:World} (c:Int) (h:Bui B bs w) (hl:bs.length+1<=140737488355328):
  Calls Tryz.prog 188 #[.pointer (some ⟨B,0,none⟩),.int .u8 c] w fun e w'=>e=.returned .nilIface/\BuiU B (bs++[.int .u8 c]) w'/\Below B w w':=by
 obtain ⟨i0,hi,M,O,Q⟩:=info_parts sExt.infoByte;have H:=zh h;clear h
 go_enter Tryz.func188,Tryz.ntmps188
 go_wp2_with fail
 refine (cc_calls H.out).mono ?_;rintro e w1 ⟨rfl,⟨U,v,E,z,K⟩,I⟩;have c1:w1.cell? ⟨B,1,none⟩=some v:=by rw [Lib.cell_of_heap E];rfl
 have J:=lt_heap E
 go_wp2_with (at_builtin;refine wpList_append_ownF _ rfl _ _ 100 rfl B 5 i0 (.int .u8 0) 1 1 Tryz.underlying100 hi M O Q rfl (by decide) _ _ _ rfl (z.alloc _) ⟨w1.heap.size,0,none⟩ 1 1 [.int .u8 c] rfl rfl ?c1 ?c2 ?c3 ?c4 ?c5 ?_)
 case c1=>
  intro j u G
  match j,G with
  | 0,G=>simp at G;subst G;simp [Addr.add]
 case c2=>intro u hu;simp at hu;subst hu;rfl
 case c3=>unfold maxLen;omega
 case c4=>omega
 case c5=>simp;omega
 intro v' w2 d hg _
 have D:w2.heap[B]?=some (.cells #[.pointer (some ⟨B,0,none⟩),v] 173 (0,0)):=by
  rw [hg.block B (by simp;omega) (fun e=>K e.symm),Lib.alloc_old w1 _ B J];exact E
 have d1:w2.cell? ⟨B,1,none⟩=some v:=by rw [Lib.cell_of_heap D];rfl
 have f1:w2.frozen? ⟨B,1,none⟩=false:=Lib.frozen_of_heap D 1
 obtain ⟨ao,n',cap,rfl⟩:∃ao n' cap,v'=.slice ao n' cap:=by
  rcases d.2 with ⟨L,_⟩ | ⟨g,cap,cur,fz,L,_⟩
  ·exact ⟨_,_,_,L⟩
  ·exact ⟨_,_,_,L⟩
 go_wp2;go_ret;refine ⟨rfl,Lib.BuilderAtF.put (T:=173) (e:=5) U D (bs':=bs++[.int .u8 c]) (by simpa using d) (by decide),?_⟩;exact ((I.alloc (by omega) _).grown hg (by simp;omega) (fun k hk=>(z.lt k hk).1)).setCell (p:=⟨B,1,none⟩) U _
theorem wString_calls {w:World} (s:ByteArray) (h:Bui B bs w) (hl:bs.length+s.size<=140737488355328):
  Calls Tryz.prog 113 #[.pointer (some ⟨B,0,none⟩),.string s] w fun e w'=>e=.returned (.tuple #[.int .i64 s.size,.nilIface])/\BuiU B (bs++Lib.strCells s) w'/\Below B w w':=by
 obtain ⟨i0,hi,L,M,O⟩:=info_parts sExt.infoByte;have H:=zh h;clear h
 go_enter Tryz.func113,Tryz.ntmps113
 go_wp2_with fail
 refine (cc_calls H.out).mono ?_;rintro e w1 ⟨rfl,⟨Q,v,E,z,J⟩,G⟩;have c1:w1.cell? ⟨B,1,none⟩=some v:=by rw [Lib.cell_of_heap E];rfl
 have I:=lt_heap E
 go_wp2_with (at_builtin;refine Lib.wpList_append_own_stringF _ rfl _ _ 100 9 rfl B 5 i0 Tryz.underlying100 Tryz.underlying9 hi L M O _ _ _ rfl z s rfl ?c3 ?c4 ?c5 ?_)
 case c3=>unfold maxLen;omega
 case c4=>omega
 case c5=>omega
 intro v' w2 d U _
 have D:w2.heap[B]?=some (.cells #[.pointer (some ⟨B,0,none⟩),v] 173 (0,0)):=by
  rw [U.block B I (fun e=>J e.symm)];exact E
 have d1:w2.cell? ⟨B,1,none⟩=some v:=by rw [Lib.cell_of_heap D];rfl
 have f1:w2.frozen? ⟨B,1,none⟩=false:=Lib.frozen_of_heap D 1
 obtain ⟨ao,n',cap,rfl⟩:∃ao n' cap,v'=.slice ao n' cap:=by
  rcases d.2 with ⟨K,_⟩ | ⟨g,cap,cur,fz,K,_⟩
  ·exact ⟨_,_,_,K⟩
  ·exact ⟨_,_,_,K⟩
 go_wp2
 go_ret2
 refine ⟨rfl,Lib.BuilderAtF.put (T:=173) (e:=5) Q D (bs':=bs++Lib.strCells s) (by simpa [Lib.strCells_length] using d) (by decide),?_⟩;exact (G.grown U (by omega) (fun k hk=>(z.lt k hk).1)).setCell (p:=⟨B,1,none⟩) Q _
theorem bOut_calls {l:List UInt8} {w:World} (h:Bui B (Lib.byteCells l) w) (d:B<=w.heap.size):Calls Tryz.prog 115 #[.pointer (some ⟨B,0,none⟩)] w fun e w'=>e=.returned (.string ⟨l.toArray⟩)/\Below B w w':=
 (Any.Builder_String_any_k sStr sExt B B l w h d).mono fun e w' h=>⟨h.1,h.2.2.1⟩
structure zM (w:World):Prop where
 tab : Lib.TabIs Tryz.prog w "internal/strconv.uint64pow10" .u64 Lib.pow10Tab
 syn : ∃ tp p, w.var? Tryz.prog "strconv.ErrSyntax" = some #[.iface tp p]
 rng : ∃ tp p, w.var? Tryz.prog "strconv.ErrRange" = some #[.iface tp p]
theorem var_ext {w w':World} (D:zb w w') {n:String} {cs:Array Value} (h:w.var? Tryz.prog n=some cs):w'.var? Tryz.prog n=some cs:=by
 unfold World.var? at h⊢
 cases z:Tryz.prog.globalNamed n with
 | none=>rw [z] at h;cases h
 | some g=>
  rw [z] at h;simp only [Option.bind_some] at h⊢
  split at h
  ·rename_i d
   rw [D.block g (lt_heap d),d];exact h
  ·cases h
theorem zM.ext {w w':World} (h:zM w) (d:zb w w'):zM w':=
 ⟨var_ext d h.tab,h.syn.imp fun _ ⟨p,h⟩=>⟨p,var_ext d h⟩,h.rng.imp fun _ ⟨p,h⟩=>⟨p,var_ext d h⟩⟩
theorem ret_str {a b:List UInt8} (h:a=b):Ending.returned (.string ⟨a.toArray⟩)=.returned (.string ⟨b.toArray⟩):=by rw [h]
def I64 (n:Int):Prop:=-9223372036854775808<=n/\n<=9223372036854775807
theorem grow_ext (w:World) (os:Array Obj):zb w (Sort.grow w os):=⟨rfl,rfl,rfl,by simp [Sort.grow],fun k d=>by simp [Sort.grow,Array.getElem?_append,d]⟩
theorem itoa_calls (w:World) (z:zM w) (d:I64 n):Calls Tryz.prog 132 #[.int .i64 n] w fun e w'=>e=.returned (.string ⟨(Lib.itoa n).toArray⟩)/\zb w w':=by
 refine (Any.strconv_Itoa sItoa n d.1 d.2 w z.tab).mono ?_;rintro e w' ⟨rfl,k,os,rfl⟩;exact ⟨rfl,((zb.refl w).drewN k).trans (grow_ext _ os)⟩
def wI (n:Int):List UInt8:=Lib.itoa n++[59]
def wL (l:List Int):List UInt8:=91 :: (l.flatMap wI++[93])
theorem itoa_len (d:I64 n):(Lib.itoa n).length<=21:=Lib.itoa_length_le n d.1 d.2
theorem wI_len (d:I64 n):(wI n).length<=22:=by have:=itoa_len d;simp [wI];omega
theorem wIs_len:∀{l:List Int},(∀x∈l,I64 x)->(l.flatMap wI).length<=22*l.length
 | [],_=>by simp
 | x :: l,h=>by
  have z:=wI_len (h x (Ed ..));have D:=wIs_len fun y d=>h y (DM x d)
  rw [List.flatMap_cons,Dz,Ex];omega
theorem add_str {x y:List UInt8} {w:World} (h:x.length+y.length<=9223372036854775807):(Op.stringOp .add ⟨x.toArray⟩ ⟨y.toArray⟩).run Tryz.prog w=.ok (.string ⟨(x++y).toArray⟩) w:=by
 rw [run_string_add_sum w _ _ (by simpa [ByteArray.size] using h),ByteArray.mk_append_mk]
theorem wInt_calls (w:World) (I:zM w) (D:I64 n):Calls Tryz.prog 70 #[.int .i64 n] w fun e w'=>e=.returned (.string ⟨(wI n).toArray⟩)/\zb w w':=by
 have E:=zh (itoa_calls w I D);have G:=itoa_len D;obtain ⟨d,z⟩:=Ez (Lib.itoa n);have J:Hid (wI n=d++[59]):=by rw [z];rfl
 rw [<-z] at G E;have L:∀w,(Op.stringOp .add ⟨d.toArray⟩ ⟨#[59]⟩).run Tryz.prog w=.ok (.string ⟨(d++[59]).toArray⟩) w:=fun w=>add_str (y:=[59]) (by simp;omega)
 clear z G I D
 go_enter Tryz.func70,Tryz.ntmps70
 go_wp2_with fail
 refine E.out.mono ?_;rintro e w1 ⟨rfl,K⟩
 go_wp2_with fail
 go_ret;exact ⟨ret_str J.out.symm,K⟩
theorem bui_bytes (l:List UInt8) (c:UInt8):Lib.byteCells l++[Value.int .u8 c.toNat]=Lib.byteCells (l++[c]):=by simp [Lib.byteCells]
theorem bui_str (l s:List UInt8):Lib.byteCells l++Lib.strCells ⟨s.toArray⟩=Lib.byteCells (l++s):=by simp [Lib.byteCells,Lib.strCells]
theorem bui_len (l:List UInt8):(Lib.byteCells l).length=l.length:=by simp [Lib.byteCells]
theorem wInts_calls {ok:Nat->Prop} (w:World) (hv:zM w) (hl:zk w ok v l) (hn:∀x∈l,I64 x) (b4:l.length<=1000000000000):Calls Tryz.prog 133 #[v,.func (.func 70) #[] #[]] w fun e w'=>e=.returned (.string ⟨(wL l).toArray⟩)/\zb w w':=by
 have HL:=zh hl;have HV:=zh hv;have HN:=zh hn;obtain ⟨A,c,rfl,hc,hr⟩:=hl;clear hn hv hr
 go_enter Tryz.func133,Tryz.ntmps133
 go_wp2_with fail
 have a1:=Bui.new w;refine (wByte_calls 91 a1 (by simp)).mono ?_;rintro e w1 ⟨rfl,a2,a3⟩;have Q:Hid (Bui w.heap.size (Lib.byteCells [91]) w1):=.inr a2;have U:Hid (zb w w1):=((Below.refl _ _).alloc (Dq _) _).trans a3;clear a1 a2 a3
 go_wp2_with fail
 go_loopw [11] (fun i wr=>∃k:Nat,k<=l.length/\i=.int .i64 k/\Hid (Bui w.heap.size (Lib.byteCells (91 :: (l.take k).flatMap wI)) wr)/\Hid (zb w wr)) (fun i _=>l.length - (intOf i).toNat)
 case atStart=>exact ⟨0,DF _,rfl,Q,U⟩
 clear Q U
 case round=>
  obtain ⟨k,hk,rfl,HB,HE⟩:=hrel
  have d:(91 :: (l.take k).flatMap wI).length<=1+22*l.length:=by
   have h1:=wIs_len (l:=l.take k) fun x O=>HN.out x (List.mem_of_mem_take O)
   simp at h1⊢;omega
  by_cases L:k<l.length
  ·have hR:=HL.out.below HE.out;obtain ⟨A',c',e',-,hr⟩:=hR;injection e' with e1 e2 e3;subst e1;obtain ⟨b,off,rfl,-,D⟩:=Ao hr L L;obtain ⟨x,O⟩:=Ez (l[k]);rw [<-O] at D;have M:I64 x:=by rw [O];exact HN.out _ (Dr _)
   have hs:(l.take (k+1)).flatMap wI=(l.take k).flatMap wI++wI x:=by rw [Dy L,List.flatMap_append,O];simp
   have HS:=zh hs;have HX:=zh (wI_len M);have HC:=zh (wInt_calls wr (HV.out.ext HE.out) M);have HR:=zh d;clear O M hs hr e2 e3 d
   go_wp2_with fail
   refine HC.out.mono ?_;rintro e w2 ⟨rfl,K⟩;have z:=HB.out.old K;have E:(Lib.byteCells (91 :: (l.take k).flatMap wI)).length+(wI x).toArray.size<=140737488355328:=by have:=HX.out;have:=HR.out;rw [bui_len];simp at this⊢;omega
   go_wp2_with fail
   refine (wString_calls ⟨(wI x).toArray⟩ z E).mono ?_;rintro e w3 ⟨rfl,J,G⟩;rw [bui_str] at J;have a9:Hid (Bui w.heap.size (Lib.byteCells (91 :: (l.take (k+1)).flatMap wI)) w3):=by rw [HS.out];exact .inr J
   have b0:Hid (zb w w3):=Below.trans (HE.out.trans K) G;clear z E J G K D
   go_wp2_with fail
   go_roundw
   case rel=>exact ⟨k+1,by omega,by go_num,a9,b0⟩
   case measure=>simp [intOf];omega
  ·obtain rfl:k=l.length:=by omega
   rw [DC] at HB d;have E:(Lib.byteCells (91 :: l.flatMap wI)).length+1<=140737488355328:=by rw [bui_len];omega
   have b1:=zh E;clear d E
   go_wp2_with fail
   refine (wByte_calls 93 HB.out b1.out).mono ?_;rintro e w2 ⟨rfl,z,a4⟩
   have I:Bui w.heap.size (Lib.byteCells (wL l)) w2:=by
    have:=z;rw [show Value.int .u8 93=Value.int .u8 (93:UInt8).toNat from rfl,bui_bytes] at this;exact .inr this
   have a8:=zh I;have a0:Hid (zb w w2):=Below.trans HE.out a4;clear z I a4
   go_wp2_with fail
   refine (bOut_calls a8.out a0.out.size).mono ?_;rintro e w3 ⟨rfl,G⟩
   go_wp2_with fail
   go_ret;exact ⟨rfl,Below.trans a0.out G⟩
theorem wireInts_calls {ok:Nat->Prop} (w:World) (E:zM w) (z:zk w ok v l) (D:∀x∈l,I64 x) (d:l.length<=1000000000000):Calls Tryz.prog 71 #[v] w fun e w'=>e=.returned (.string ⟨(wL l).toArray⟩)/\zb w w':=by
 have G:=zh (wInts_calls w E z D d);obtain ⟨A,c,rfl,-,-⟩:=z;clear E D
 go_enter Tryz.func71,Tryz.ntmps71
 go_wp2_with fail
 refine G.out.mono ?_;rintro e w1 ⟨rfl,I⟩
 go_wp2_with fail
 go_ret;exact ⟨rfl,I⟩
end
section
open Go.RowKit
attribute [local go_sem ↓] Go.wp_at_zero Go.wp_at_succ
theorem last_calls {g gr P cap n p:Nat} (w:World) (d:w.cell? ⟨g,0,none⟩=some (.slice (some ⟨gr,0,none⟩) P cap)) (z:w.cell? ⟨gr,n,none⟩=some (ptrV p)) (E:P=n+1) (D:P<=cap) (K:n<=1000):
  Calls Tryz.prog 95 #[.pointer (some ⟨g,0,none⟩)] w fun e w'=>e=.returned (ptrV p)/\zB w w':=by
 have r0:=zb.rule d;have r1:=zb.rule z;have G:(0:Int)<=(n:Int):=by omega
 have I:(n:Int)<(P:Int):=by omega
 have J:IntKind.i64.wrap ((P:Int) - 1)=(n:Int):=by rw [DN];omega
 clear d z E;have L:=zb.refl w
 go_enter Tryz.func95,Tryz.ntmps95
 go_wp2_with fail
 go_quiet (fail)
 go_wp2;go_ret;exact ⟨rfl,(zB.refl w).more _⟩
theorem last_c {w w':World} {X Y:Nat->Prop} {g gr cap p:Nat} {m:MZ} {s:RS} {ptrs:List Nat} (h:Ad w X Y g gr cap m s ptrs) (hp:ptrs[s.ch.length]?=some p) (D:s.ch.length<=1000):
  Calls Tryz.prog 95 #[.pointer (some ⟨g,0,none⟩)] w fun e w'=>e=.returned (.pointer (some ⟨p,0,none⟩))/\zB w w':=by
 obtain ⟨p',d,_,z⟩:=h.row.last;rw [hp] at d;injection d with d;subst d;exact last_calls w (h.blk.cell (k:=0) rfl) z h.row.2.1 (Be h.row.1) D
theorem choices_c {X Y:Nat->Prop} {g gr cap:Nat} {m:MZ} {s:RS} {ptrs:List Nat} (w:World) (h:Ad w X Y g gr cap m s ptrs) (K:s.ch.length<=1000):
  Calls Tryz.prog 54 #[.pointer (some ⟨g,0,none⟩)] w fun e w'=>∃v',e=.returned v'/\Mk w w' v' s.ch:=by
 obtain ⟨p,hp,E,D⟩:=h.row.last;have M:=zh (last_c (w':=w) h hp K);have a3:w.cell? ⟨g,0,none⟩=some (.slice (some ⟨gr,0,none⟩) ptrs.length cap):=h.blk.cell (k:=0) rfl;have I:=Be h.row.1;have d:=h.row.2.1;clear h hp D;obtain ⟨us,f,u,t,vc,vp,gu,h1,z⟩:=E;obtain ⟨r0,r1,r2,r3,r4,r5,r6,r7,r8⟩:=z.rules;have U:=zh z.ch;clear h1 z;generalize ptrs.length=P at*;have a1:decide ((P:Int)=0)=false:=Dv (by omega);have a2:((P:Int)==0)=false:=by rw [DE];omega
 have Q:=zh K;clear d
 go_enter Tryz.func54,Tryz.ntmps54
 go_wp2_with fail
 refine M.out.mono ?_;rintro e w1 ⟨rfl,J⟩;have L:zb w w1:=J.below _;clear J
 go_wp2_with fail
 refine (Bc _ (U.out.below L) (by have:=Q.out;omega)).mono ?_;rintro e w2 ⟨v',rfl,G⟩;have O:=zh (L.mono_mk G);clear G
 go_wp2_with fail
 go_ret;exact ⟨_,rfl,O.out⟩
end
section
open Go.RowKit
section
variable {w w' W:World} {X Y:Nat->Prop} {g gr cap:Nat} {m:MZ} {s:RS} {ptrs:List Nat} {ch:List Int}
theorem Ad.okR_ne (h:Ad w X Y g gr cap m s ptrs) {b:Nat} (D:okR X Y g gr b):b≠g/\b≠gr:=by
 rcases D with ⟨_,d,z⟩ | hy
 ·exact ⟨d,z⟩
 ·exact ⟨fun e=>h.yg (e ▸ hy),fun e=>h.yr (e ▸ hy)⟩
theorem Ad.setg (h:Ad w X Y g gr cap m s ptrs) (j:Nat) (v:Value) {s':RS} (d:s'.ch=s.ch) (z:(#[.slice (some ⟨gr,0,none⟩) ptrs.length cap,.bool s.done,.int .i64 s.steps]:Array Value).setIfInBounds j v=#[.slice (some ⟨gr,0,none⟩) ptrs.length cap,.bool s'.done,.int .i64 s'.steps]):
  Ad (w.setCell ⟨g,j,none⟩ v) X Y g gr cap m s' ptrs:=
 ⟨by have:=h.blk.set (k:=j) v;rwa [z] at this,h.xg,h.xr,h.ne,h.yg,h.yr,by
  rw [d]
  exact h.row.keep (fun b z hx=>DA w ⟨g,j,none⟩ v b (by
   show b≠g;rcases hx with hx | hx
   ·exact hx.2
   ·exact fun e=>h.yg (e ▸ hx))) h.xr h.ne⟩
theorem Ad.done (h:Ad w X Y g gr cap m s ptrs) (d:Bool):Ad (w.setCell ⟨g,1,none⟩ (.bool d)) X Y g gr cap m ⟨s.ch,d,s.steps⟩ ptrs:=h.setg 1 _ rfl rfl
theorem Ad.stepsTo (h:Ad w X Y g gr cap m s ptrs) (n:Int):Ad (w.setCell ⟨g,2,none⟩ (.int .i64 n)) X Y g gr cap m ⟨s.ch,s.done,n⟩ ptrs:=h.setg 2 _ rfl rfl
theorem Ad.widen {X':Nat->Prop} (h:Ad w X Y g gr cap m s ptrs) (d:∀b,X b->X' b):Ad w X' Y g gr cap m s ptrs:=
 ⟨h.blk,d _ h.xg,d _ h.xr,h.ne,h.yg,h.yr,h.row.1,h.row.2.1,fun k p hp=>(h.row.2.2 k p hp).weaken fun b hb=>by
  rcases hb with hb | hb
  ·exact .inl ⟨d _ hb.1,hb.2⟩
  ·exact .inr hb⟩
theorem chg_setg {X:Nat->Prop} (w:World) (z:X g) (j:Nat) (v:Value):zi X w (w.setCell ⟨g,j,none⟩ v):=
 ⟨rfl,rfl,rfl,by simp [World.setCell],fun b _ d=>DA w ⟨g,j,none⟩ v b (by rintro rfl;exact d z)⟩
theorem zi.tr {X:Nat->Prop} {b c:World} (h:zi X a b) (d:zi X b c):zi X a c:=h.trans d (fun _ _ h=>h)
theorem zi.ext_r {X:Nat->Prop} {b c:World} (h:zi X a b) (d:zb b c):zi X a c:=h.tr (zi.of_ext d)
theorem Ad.pop (h:Ad w X Y g gr cap m s ptrs) (I:k<=s.ch.length):Ad (w.setCell ⟨g,0,none⟩ (.slice (some ⟨gr,0,none⟩) (k+1) cap)) X Y g gr cap m ⟨s.ch.take k,s.done,s.steps⟩ (ptrs.take (k+1)):=by
 have D:=h.row.2.1;have z:(ptrs.take (k+1)).length=k+1:=by rw [Ej];omega
 have d:∀b,(X b/\b≠g)\/Y b->(w.setCell ⟨g,0,none⟩ (.slice (some ⟨gr,0,none⟩) (k+1) cap)).heap[b]?=w.heap[b]?:=fun b hx=>DA w ⟨g,0,none⟩ _ b (by
  show b≠g;rcases hx with hx | hx
  ·exact hx.2
  ·exact fun e=>h.yg (e ▸ hx))
 have G:w.ownsRow 0 149 1 (.slice (some ⟨gr,0,none⟩) (k+1) cap) (k+1) ((ptrs.take (k+1)).map ptrV):=by
  rw [List.map_take];exact row_shrink h.row.1 (by omega)
 refine ⟨?_,h.xg,h.xr,h.ne,h.yg,h.yr,?_,?_,?_⟩
 ·have:=h.blk.set (k:=0) (.slice (some ⟨gr,0,none⟩) (k+1) cap);rw [z];exact this
 ·rw [z];exact row_keep G (d gr (.inl ⟨h.xr,Ne.symm h.ne⟩))
 ·simp only [Ej];omega
 ·intro j p hp
  have E:j<k+1:=by
   rcases DO j (k+1) with h1 | h1
   ·exact h1
   ·rw [DL (by omega)] at hp;cases hp
  rw [List.getElem?_take_of_lt E] at hp;have:=h.row.2.2 j p hp;rw [List.take_take,Nat.min_eq_left (by omega)]
  exact this.keep fun b hb _=>d b (by
   rcases hb with hb | hb
   ·exact .inl ⟨hb.1,hb.2.1⟩
   ·exact .inr hb)
theorem Ad.push (h:Ad w X Y g gr cap m s ptrs) {q:Nat} {v':Value} {w5:World} (a4:Dl w (okR X Y g gr) q m (s.ch++[n])) (O:∀b,w.heap.size<=b->X b) (Q:∀b,Y b->b<w.heap.size)
  (J:w5.ownsRow 0 149 1 v' (ptrs.length+1) (ptrs.map ptrV++[ptrV q])) (L:(w.alloc o).grownBy w5 (some gr)) (hv:v'.ownBlock=some gr\/v'.ownBlock=some (w.heap.size+1)):
  ∃gr' cap',v'=.slice (some ⟨gr',0,none⟩) (ptrs.length+1) cap'/\Ad (w5.setCell ⟨g,0,none⟩ v') X Y g gr' cap' m ⟨s.ch++[n],s.done,s.steps⟩ (ptrs++[q])/\zi X w (w5.setCell ⟨g,0,none⟩ v'):=by
 obtain ⟨gr',cap',rfl,_,b0⟩:=World.ownsRow.form J (by omega)
 have D:gr'=gr\/gr'=w.heap.size+1:=by
  rcases hv with hv | hv
  ·left;simpa [Value.ownBlock] using hv
  ·right;simpa [Value.ownBlock] using hv
 have a1:g<w.heap.size:=za h.blk;have b2:gr<w.heap.size:=(h.row.1.lt gr rfl).2;have a5:w.heap.size<=w5.heap.size:=Dt (by simp) L.size
 have I:g≠gr':=by
  rcases D with rfl | rfl
  ·exact h.ne
  ·omega
 have E:∀b,b<w.heap.size->b≠gr->w5.heap[b]?=w.heap[b]?:=fun b d K=>(L.block b (by simp;omega) (fun e=>K (by injection e))).trans (DK _ _ _ d)
 have z:∀b,b<w.heap.size->b≠gr->b≠g->(w5.setCell ⟨g,0,none⟩ (.slice (some ⟨gr',0,none⟩) (ptrs.length+1) cap')).heap[b]?=w.heap[b]?:=fun b d K a0=>(DA w5 ⟨g,0,none⟩ _ b a0).trans (E b d K)
 have a3:∀b,okR X Y g gr b/\b<w.heap.size->okR X Y g gr' b:=by
  rintro b ⟨d,a9⟩;rcases d with ⟨h1,h2,h3⟩ | hy
  ·exact .inl ⟨h1,h2,by rcases D with rfl | rfl;exact h3;omega⟩
  ·exact .inr hy
 have G:∀(p:Nat) (c:List Int),Dl w (okR X Y g gr) p m c->Dl (w5.setCell ⟨g,0,none⟩ (.slice (some ⟨gr',0,none⟩) (ptrs.length+1) cap')) (okR X Y g gr') p m c:=fun p c hs=>
  (hs.bound.keep fun b d _=>z b d.2 (h.okR_ne d.1).2 (h.okR_ne d.1).1).weaken a3
 have M:=h.row.2.1;refine ⟨gr',cap',rfl,⟨?_,h.xg,?_,I,h.yg,?_,?_,?_,?_⟩,?_⟩
 ·have U:ze w5 g 148 #[.slice (some ⟨gr,0,none⟩) ptrs.length cap,.bool s.done,.int .i64 s.steps]:=(E g a1 h.ne).trans h.blk;have:=U.set (k:=0) (.slice (some ⟨gr',0,none⟩) (ptrs.length+1) cap');rw [Dz,DR];exact this
 ·rcases D with rfl | rfl
  ·exact h.xr
  ·exact O _ (by omega)
 ·rcases D with rfl | rfl
  ·exact h.yr
  ·intro hy;have:=Q _ hy;omega
 ·rw [Dz,DR,Ei];exact row_keep J (DA w5 ⟨g,0,none⟩ _ gr' (Ne.symm I))
 ·simp [M]
 ·intro k p hp;rcases DO k ptrs.length with hk | hk
  ·rw [Dw hk] at hp;rw [List.take_append_of_le_length (by omega)];exact G _ _ (h.row.2.2 k p hp)
  ·have a2:k=ptrs.length:=by
    rcases DO k (ptrs++[q]).length with h1 | h1
    ·simp at h1;omega
    ·rw [DL h1] at hp;cases hp
   subst a2;rw [Dx (Dq _)] at hp;have hq:q=p:=by simpa using hp
   subst hq;rw [List.take_of_length_le (by simp;omega)];exact G _ _ a4
 ·exact ⟨L.os,L.tape,L.output,by simpa [World.setCell] using a5,fun b d hx=>z b d (fun e=>hx (e ▸ h.xr)) (fun e=>hx (e ▸ h.xg))⟩
end
noncomputable def srch (m:MZ) (ch:List Int) (k:Nat) (b:Int):Option (List Int):=
 match aft m (ch.take k) b with
 | some n=>some (ch.take k++[n])
 | none=>backN m ch k
theorem srch_top (m:MZ) (ch:List Int):srch m ch ch.length (-1)=stepC m ch:=by
 unfold srch stepC;rw [DC]
 all_goals (cases aft m ch (-1) <;> rfl)
theorem srch_back {m:MZ} {ch:List Int} (h:aft m (ch.take (k+1)) b=none):srch m ch (k+1) b=srch m ch k (ch.getD k 0):=by
 unfold srch;rw [h];rfl
theorem srch_zero {m:MZ} {ch:List Int} (h:aft m (ch.take 0) b=none):srch m ch 0 b=none:=by
 unfold srch;rw [h];rfl
theorem aft_none {m:MZ} {ch:List Int} (d:l=cand m ch) (h:∀n∈l,¬ (b<n/\Ay m (ch++[n])=true)):aft m ch b=none:=by
 unfold aft;rw [List.find?_eq_none];intro n z;have:=h n (by rw [d];exact z);simp only [DD,DB];exact this
theorem aft_at {m:MZ} {ch:List Int} {i:Nat} (E:i<(cand m ch).length) (h:∀n∈(cand m ch).take i,¬ (b<n/\Ay m (ch++[n])=true)) (d:b<(cand m ch)[i]) (z:Ay m (ch++[(cand m ch)[i]])=true):aft m ch b=some (cand m ch)[i]:=by
 unfold aft;generalize cand m ch=l at*;obtain ⟨x,D⟩:=Ez (l[i]);rw [<-D] at d z⊢
 have I:l=l.take i++x :: l.drop (i+1):=by
  rw [D,List.getElem_cons_drop E,List.take_append_drop]
 rw [I,List.find?_append,List.find?_eq_none.2 (fun n G=>by
  have:=h n G;simp only [DD,DB];exact this)]
 simp [d,z]
def JV (V:Nat->Value->World->Prop) (w0:World) (e:Nat->Bool) (v:Nat->Value) (W:World):Prop:=zb w0 W/\∀j,e j=true->V j (v j) W
def StV (V:Nat->Value->World->Prop):Prop:=∀j x W W',zb W W'->V j x W->V j x W'
theorem StV.ext (h:StV V) {W:World} (d:zb W W') (z:V j x W):V j x W':=h j x W W' d z
theorem JV.init {w:World} {js:List Nat} {v:Nat->Value} (h:∀j,j∉js->∀x W,V j x W) (he:∀j∈js,e j=false) (z:zb w0 w):JV V w0 e v w:=
 ⟨z,fun j d=>h j (fun hm=>by rw [he j hm] at d;cases d) _ _⟩
theorem JV.get {W:World} {v:Nat->Value} (h:JV V w0 e v W) (d:e j=true):V j (v j) W:=h.2 j d
theorem JV.step {W:World} {v:Nat->Value} (h:JV V w0 e v W) (hV:StV V) (z:zb W W') (E:V j x W'):JV V w0 (zT e j true) (zT v j x) W':=by
 refine ⟨h.1.trans z,fun k D=>?_⟩;by_cases d:k=j
 ·subst d;rw [AH];exact E
 ·rw [zW v x d];rw [zW e true d] at D;exact hV.ext z (h.2 k D)
end
end Go.Proofs.YtnmkmhpgnpojbaaGreatDoor
