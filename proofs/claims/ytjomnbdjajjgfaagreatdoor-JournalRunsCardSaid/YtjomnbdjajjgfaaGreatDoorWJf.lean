import Derived.Test.YtjomnbdjajjgfaaGreatDoorWJe
import Derived.Lib.ItoaLen
import Derived.Maps.AppendAt
import Derived.Deep.LoopGhost
import Derived.StillTailTactics
set_option linter.unusedVariables false
set_option linter.unusedSimpArgs false
set_option maxRecDepth 100000
set_option maxHeartbeats 16000000
namespace Go.Proofs.YtjomnbdjajjgfaaGreatDoor
variable {cs:Array Value} {b n:Int} {ns:List ByteArray} {a l:List UInt8} {bs xs:List Value} {B i k q r:Nat} {o:Obj} {c:UInt8} {u v:Value}
section
open Go.RowKit
def zS (m:MZ) (ch:List Int):List (List Int):=ch.foldl (Ch m) (ps0 m)
def Bn (m:MZ) (ch:List Int):List Int:=CR m (zS m ch) ch
def zV (m:MZ) (ch:List Int):Bool:=cmpB m (zS m ch)
noncomputable def AA (m:MZ) (ch:List Int):Bool:=openB m (zS m ch) ch
theorem psOf_nil (m:MZ):zS m []=ps0 m:=rfl
theorem Eu (m:MZ) (ch:List Int) (n:Int):zS m (ch++[n])=Ch m (zS m ch) n:=by simp [zS,List.foldl_append]
section
variable {m:MZ} {ps:List (List Int)} {us us':List Int}
theorem dec_congr (h:∀x,x∈us↔x∈us') (n:Int):decide (n∈us)=decide (n∈us'):=by rw [decide_eq_decide];exact h n
theorem candL_congr (h:∀x,x∈us↔x∈us'):CR m ps us=CR m ps us':=by
 unfold CR;simp only [zX,dec_congr h]
 have:(fun n=>zX m us (ps.length - 1) (ps.getD (ps.length - 1) []).dropLast (m.tasks.getD (ps.length - 1) ([],[])).1 n)=(fun n=>zX m us' (ps.length - 1) (ps.getD (ps.length - 1) []).dropLast (m.tasks.getD (ps.length - 1) ([],[])).1 n):=by
  funext n;simp only [zX,dec_congr h]
 have h2:zX m us (ps.length - 1) (ps.getD (ps.length - 1) []).dropLast (m.tasks.getD (ps.length - 1) ([],[])).1=zX m us' (ps.length - 1) (ps.getD (ps.length - 1) []).dropLast (m.tasks.getD (ps.length - 1) ([],[])).1:=this;rw [h2]
theorem fromL_congr (h:∀x,x∈us↔x∈us') (t:Nat):Bb m ps us t=Bb m ps us' t:=by
 unfold Bb;simp only [dec_congr h]
theorem reachL_congr (h:∀x,x∈us↔x∈us') (t:Nat) (f:List Int):Cq m t f us=Cq m t f us':=by
 unfold Cq;apply List.filter_congr;intro x _;rw [decide_eq_decide];exact ⟨fun D=>D.congr (fun _=>Iff.rfl) h,fun D=>D.congr (fun _=>Iff.rfl) (fun x=>(h x).symm)⟩
theorem openB_congr (h:∀x,x∈us↔x∈us'):openB m ps us=openB m ps us':=by
 unfold openB DA;simp only [fromL_congr h,reachL_congr h]
end
inductive zw (m:MZ):List Int->Prop
 | nil:zw m []
 | snoc {ch:List Int} {n:Int}:zw m ch->n∈Bn m ch->zw m (ch++[n])
theorem CS {m:MZ} {ch:List Int} (h:n∈Bn m ch):zV m ch=false:=by
 unfold Bn CR at h;unfold zV
 cases D:cmpB m (zS m ch)
 ·rfl
 ·rw [if_pos D] at h;cases h
theorem BU {m:MZ} {ps:List (List Int)} (h:cmpB m ps=false):0<m.tasks.length:=by
 rcases zav m.tasks.length with h0 | h0
 ·unfold cmpB at h;rw [FB h0] at h;cases h
 ·exact h0
structure PsOk (m:MZ) (ch:List Int) (ps:List (List Int)):Prop where
 pl:ps.length<=m.tasks.length
 pn:0<m.tasks.length->0<ps.length
 fl:ps.flatten=ch
theorem getD_mem {α:Type} {l:List (List α)} (h:k<l.length):l.getD k []∈l:=by
 rw [Fx,Fw h];exact Fz h
theorem addN_eq {ps:List (List Int)} (hp:0<ps.length) (n:Int):∃qs p,ps=qs++[p]/\CF ps n=qs++[p++[n]]:=by
 rcases List.eq_nil_or_concat ps with rfl | ⟨qs,p,rfl⟩
 ·simp at hp
 ·refine ⟨qs,p,by simp,?_⟩;unfold CF;rw [List.concat_eq_append,FG,zak,Nat.add_sub_cancel,List.set_append_right _ _ (Fy _)];simp
theorem DQ {ps:List (List Int)}:(CF ps n).length=ps.length:=by unfold CF;simp
theorem addN_flat {ps:List (List Int)} (hp:0<ps.length) (n:Int):(CF ps n).flatten=ps.flatten++[n]:=by
 obtain ⟨qs,p,rfl,h⟩:=addN_eq hp n;rw [h];simp
theorem withPs_flat {m:MZ} {ps:List (List Int)} (hp:0<ps.length) (n:Int):(Ch m ps n).flatten=ps.flatten++[n]:=by
 unfold Ch
 split
 ·rw [List.flatten_append,addN_flat hp];simp
 ·exact addN_flat hp n
theorem PsOk.step {m:MZ} {ch:List Int} {ps:List (List Int)} (h:PsOk m ch ps) (ht:0<m.tasks.length) (n:Int):PsOk m (ch++[n]) (Ch m ps n):=by
 have hp:=h.pn ht;refine ⟨?_,fun _=>?_,?_⟩
 ·unfold Ch
  split
  ·rename_i h1
   simp only [FG,DQ,zak];omega
  ·rw [DQ];exact h.pl
 ·unfold Ch
  split <;> simp [DQ] <;> omega
 ·rw [withPs_flat hp,h.fl]
theorem psOk_nil (m:MZ):PsOk m [] (zS m []):=by
 rw [psOf_nil];unfold ps0
 split
 ·rename_i h;exact ⟨by simp,fun D=>by omega,rfl⟩
 ·rename_i h;exact ⟨by simp;omega,fun _=>by simp,rfl⟩
theorem zw.psOk {m:MZ} {ch:List Int} (h:zw m ch):PsOk m ch (zS m ch):=by
 induction h with
 | nil=>exact psOk_nil m
 | snoc h D ih=>rw [Eu];exact ih.step (BU (CS D)) _
theorem mem_flat_last {ps:List (List Int)} {x:Int} (E:(ps.getD k []).getLast?=some x):x∈ps.flatten:=by
 have h1:x∈ps.getD k []:=List.mem_of_getLast? E;by_cases D:k<ps.length
 ·exact List.mem_flatten.2 ⟨_,getD_mem D,h1⟩
 ·rw [Fx,zae (by omega)] at h1;cases h1
theorem cand_range {m:MZ} (g:zZ m) {ch:List Int} (J:∀x∈ch,0<=x/\x<m.n) (hf:(zS m ch).flatten=ch) (h:n∈Bn m ch):0<=n/\n<m.n/\n∉ch:=by
 have ht:=BU (CS h);have D:=CS h;unfold zV at D;unfold Bn CR at h;rw [if_neg (by rw [D];simp)] at h
 split at h
 ·obtain ⟨h1,h2⟩:=za9.1 h;have h3:=mem_sortL.1 (Fc h1);simp only [FK,Bool.not_eq_true',zai] at h2;by_cases I:(zS m ch).length - 1<m.tasks.length
  ·rw [Fx,Fw I] at h3;have:=g.tn _ (Fz I) n (.inl h3);exact ⟨this.1,this.2,h2.2⟩
  ·rw [Fx,zae (by omega)] at h3;cases h3
 ·rename_i x M
  obtain ⟨h1,h2⟩:=za9.1 h;have G:x∈ch:=by rw [<-hf];exact mem_flat_last M
  have E:=J x G;have h3:=Co g.dim E.1 E.2 h1;unfold zX at h2;simp only [FK,Bool.not_eq_true',zai] at h2;exact ⟨h3.1,h3.2,h2.1.1.2⟩
theorem zw.range {m:MZ} (g:zZ m) {ch:List Int} (h:zw m ch):(∀x∈ch,0<=x/\x<m.n)/\ch.Nodup:=by
 induction h with
 | nil=>exact ⟨fun x hx=>absurd hx za8,List.nodup_nil⟩
 | snoc h I ih=>
  have D:=cand_range g ih.1 h.psOk.fl I;refine ⟨fun x hx=>?_,?_⟩
  ·rcases za0.1 hx with hx | hx
   ·exact ih.1 x hx
   ·rw [zar] at hx;subst hx;exact ⟨D.1,D.2.1⟩
  ·rw [List.nodup_append];refine ⟨ih.2,by simp,fun a G b E=>?_⟩;rw [zar] at E;subst E;rintro rfl;exact D.2.2 G
theorem zw.len {m:MZ} (g:zZ m) {ch:List Int} (h:zw m ch):ch.length<=m.n.toNat:=Cf (h.range g).2 m.n (h.range g).1
theorem flat_le {ps:List (List Int)} {p:List Int} (h:p∈ps):p.length<=ps.flatten.length:=by
 induction ps with
 | nil=>cases h
 | cons q qs ih=>
  rw [List.flatten_cons,FG];rcases zaz.1 h with rfl | h
  ·omega
  ·have:=ih h;omega
theorem sok_of {m:MZ} (g:zZ m) (E:Lens m) {ch:List Int} {ps:List (List Int)} (h:PsOk m ch ps) (G:∀x∈ch,0<=x/\x<m.n) (D:ch.length<=1000):SOk m ch ps:=
 ⟨g,E,h.pl,h.pn,fun p hp=>by have:=flat_le hp;rw [h.fl] at this;omega,fun p hp x I=>G x (by rw [<-h.fl];exact List.mem_flatten.2 ⟨p,hp,I⟩),D⟩
theorem zw.len300 {m:MZ} (g:zZ m) {ch:List Int} (h:zw m ch):ch.length<=300:=by
 have h1:=h.len g;have h2:=g.dim.n1;have h3:m.n=m.w*m.h*m.l:=rfl;omega
theorem zw.sok {m:MZ} (g:zZ m) (D:Lens m) {ch:List Int} (h:zw m ch):SOk m ch (zS m ch):=
 sok_of g D h.psOk (h.range g).1 (by have:=h.len300 g;omega)
theorem zw.sok1 {m:MZ} (g:zZ m) (E:Lens m) {ch:List Int} (h:zw m ch) (D:n∈Bn m ch):SOk m (ch++[n]) (CF (zS m ch) n):=by
 have h1:=h.psOk;have ht:=BU (CS D);have h2:=zw.snoc h D;refine sok_of g E ⟨by rw [DQ];exact h1.pl,fun h=>by rw [DQ];exact h1.pn h,by rw [addN_flat (h1.pn ht),h1.fl]⟩ (h2.range g).1 (by have:=h2.len300 g;omega)
theorem Dv {m:MZ} (E:Lens m) (ch:List Int):(Bn m ch).length<=400000000000:=by
 unfold Bn CR
 split
 ·simp
 ·split
  ·refine FA (zan _ _) (FA (compact_len _) ?_);unfold BL;rw [List.length_mergeSort];by_cases D:(zS m ch).length - 1<m.tasks.length
   ·rw [Fx,Fw D];exact (E.tl _ (Fz D)).1
   ·rw [Fx,zae (by omega)];simp
  ·refine FA (zan _ _) ?_;have:=Dp m;exact FA (this _) (by omega)
noncomputable def aft (m:MZ) (ch:List Int) (last:Int):Option Int:=(Bn m ch).find? fun n=>decide (last<n) && AA m (ch++[n])
noncomputable def backN (m:MZ) (ch:List Int):Nat->Option (List Int)
 | 0=>none
 | k+1=>match aft m (ch.take k) (ch.getD k 0) with
  | some n=>some (ch.take k++[n])
  | none=>backN m ch k
noncomputable def DE (m:MZ) (ch:List Int):Option (List Int):=
 match aft m ch (-1) with
 | some n=>some (ch++[n])
 | none=>backN m ch ch.length
structure RS where
 ch:List Int
 done:Bool
 steps:Int
noncomputable def RS.one (m:MZ) (s:RS):RS:=match DE m s.ch with
 | some c=>⟨c,zV m c,s.steps+1⟩
 | none=>⟨[],true,s.steps+1⟩
noncomputable def RS.run (m:MZ):Nat->RS->RS
 | 0,s=>s
 | n+1,s=>if s.done=true then s else RS.run m n (s.one m)
theorem RS.run_done {m:MZ} {s:RS} (h:s.done=true):∀n,RS.run m n s=s
 | 0=>rfl
 | n+1=>by simp [RS.run,h]
theorem zw.take {m:MZ} {ch:List Int} (h:zw m ch) (k:Nat):zw m (ch.take k):=by
 induction h with
 | nil=>simpa using zw.nil
 | @snoc ch n h D ih=>
  rcases zah ch.length k with hk | hk
  ·rw [List.take_of_length_le (by simp;omega)];exact .snoc h D
  ·rw [List.take_append_of_le_length hk];exact ih
theorem zw.at {m:MZ} {ch:List Int} (h:zw m ch) {k:Nat} (D:k<ch.length):ch[k]∈Bn m (ch.take k):=by
 induction h with
 | nil=>simp at D
 | @snoc ch n h E ih=>
  rcases zah k ch.length with h1 | h1
  ·rw [List.getElem_append_left h1,List.take_append_of_le_length (by omega)];exact ih h1
  ·have h2:k=ch.length:=by simp at D;omega
   subst h2;rw [List.getElem_append_right (Fy _),List.take_append_of_le_length (Fy _),FJ];simpa using E
theorem aft_some {m:MZ} {ch:List Int} {last:Int} (h:aft m ch last=some n):n∈Bn m ch/\last<n/\AA m (ch++[n])=true:=by
 unfold aft at h;have h1:=List.find?_some h;simp only [FK,FI] at h1;exact ⟨List.mem_of_find?_eq_some h,h1.1,h1.2⟩
theorem backN_some {m:MZ} {ch:List Int} (h:zw m ch):∀{k:Nat} {c:List Int},backN m ch k=some c->zw m c/\0<c.length/\AA m c=true
 | 0,c,D=>by cases D
 | k+1,c,D=>by
  unfold backN at D
  split at D
  ·rename_i n E
   injection D with D;subst D;obtain ⟨h1,_,h2⟩:=aft_some E;exact ⟨.snoc (h.take k) h1,by simp,h2⟩
  ·exact backN_some h D
theorem stepC_some {m:MZ} {ch c:List Int} (h:zw m ch) (D:DE m ch=some c):zw m c/\0<c.length/\AA m c=true:=by
 unfold DE at D
 split at D
 ·rename_i n E
  injection D with D;subst D;obtain ⟨h1,_,h2⟩:=aft_some E;exact ⟨.snoc h h1,by simp,h2⟩
 ·exact backN_some h D
end
section
open Go.RowKit
attribute [local go_sem ↓] Go.wp_at_zero Go.wp_at_succ
def Fu (w:World) (ok:Nat->Prop) (p:Nat) (m:MZ) (ch:List Int):Prop:=
 ∃us f u t vc vp gu,(∀x,x∈us↔x∈ch)/\BN w ok p m ch (zS m ch) us f u t vc vp gu
section
variable {w w':World} {ok ok':Nat->Prop} {p:Nat} {m:MZ} {ch:List Int}
theorem Fu.keep (h:Fu w ok p m ch) (D:Ao ok w w'):Fu w' ok p m ch:=by
 obtain ⟨us,f,u,t,vc,vp,gu,h1,h2⟩:=h;exact ⟨us,f,u,t,vc,vp,gu,h1,h2.keep D⟩
theorem Fu.weaken (h:Fu w ok p m ch) (D:∀b,ok b->ok' b):Fu w ok' p m ch:=by
 obtain ⟨us,f,u,t,vc,vp,gu,h1,h2⟩:=h;exact ⟨us,f,u,t,vc,vp,gu,h1,h2.weaken D⟩
theorem Fu.bound (h:Fu w ok p m ch):Fu w (fun b=>ok b/\b<w.heap.size) p m ch:=by
 obtain ⟨us,f,u,t,vc,vp,gu,h1,h2⟩:=h;exact ⟨us,f,u,t,vc,vp,gu,h1,h2.bound⟩
theorem Fu.ext (h:Fu w ok p m ch) (D:za w w'):Fu w' ok p m ch:=h.keep (Ao.of_below D)
end
theorem begin_c {ok:Nat->Prop} {m:MZ} (w:World) (hm:zL w ok v m) (D:m.tasks.length<=100000):
  Calls Tryz.prog 146 #[v] w fun e w'=>∃p,e=.returned (.pointer (some ⟨p,0,none⟩))/\za w w'/\Fu w' (fun b=>ok b\/w.heap.size<=b) p m []:=by
 refine (begin_calls w hm D).mono ?_;rintro e w' ⟨v',rfl,E,g,f,u,t,vc,vp,gu,rfl,h⟩;exact ⟨g,rfl,E,[],f,u,t,vc,vp,gu,fun _=>Iff.rfl,h⟩
theorem EA {ok:Nat->Prop} {m:MZ} {ch:List Int} {p:Nat} (w:World) (h:Fu w ok p m ch) (g:zZ m) (E:Lens m) (D:zw m ch):
  Calls Tryz.prog 151 #[.pointer (some ⟨p,0,none⟩)] w fun e w'=>e=.returned (.bool (zV m ch))/\zT w w':=by
 obtain ⟨us,f,u,t,vc,vp,gu,h1,h2⟩:=h;exact Db w h2 (D.sok g E)
theorem DF {ok:Nat->Prop} {m:MZ} {ch:List Int} {p:Nat} (w:World) (h:Fu w ok p m ch) (g:zZ m) (E:Lens m) (D:zw m ch):
  Calls Tryz.prog 148 #[.pointer (some ⟨p,0,none⟩)] w fun e w'=>∃v',e=.returned v'/\Mk w w' v' (Bn m ch):=by
 obtain ⟨us,f,u,t,vc,vp,gu,h1,h2⟩:=h;unfold Bn;rw [<-candL_congr h1];exact candidates_calls w h2 (D.sok g E)
theorem open_c {ok:Nat->Prop} {m:MZ} {ch:List Int} {p:Nat} (w:World) (h:Fu w ok p m ch) (g:zZ m) (E:Lens m) (D:zw m ch):
  Calls Tryz.prog 150 #[.pointer (some ⟨p,0,none⟩)] w fun e w'=>e=.returned (.bool (AA m ch))/\za w w':=by
 obtain ⟨us,f,u,t,vc,vp,gu,h1,h2⟩:=h;unfold AA;rw [<-openB_congr h1];exact open_calls w h2 (D.sok g E)
theorem with_c {ok:Nat->Prop} {m:MZ} {ch:List Int} {p:Nat} (w:World) (h:Fu w ok p m ch) (g:zZ m) (E:Lens m) (D:zw m ch) (G:n∈Bn m ch):
  Calls Tryz.prog 149 #[.pointer (some ⟨p,0,none⟩),.int .i64 n] w fun e w'=>∃q,e=.returned (.pointer (some ⟨q,0,none⟩))/\za w w'/\Fu w' (fun b=>(ok b/\b<w.heap.size)\/w.heap.size<=b) q m (ch++[n]):=by
 obtain ⟨us,f,u,t,vc,vp,gu,h1,h2⟩:=h;have hp:=D.psOk.pn (BU (CS G));refine (with_calls n w h2.bound (D.sok g E) (D.sok1 g E G) hp).mono ?_;rintro e w' ⟨v',rfl,I,us',h3,q,f',u',t',vc',vp',gu',rfl,h4⟩;refine ⟨q,rfl,I,us',f',u',t',vc',vp',gu',fun x=>?_,?_⟩
 ·rw [h3,h1,za0,zar];exact Or.comm
 ·rw [Eu];exact h4
def okR (X Y:Nat->Prop) (g gr:Nat) (b:Nat):Prop:=(X b/\b≠g/\b≠gr)\/Y b
def ptrV (p:Nat):Value:=.pointer (some ⟨p,0,none⟩)
def RtRow (w:World) (X Y:Nat->Prop) (g gr cap:Nat) (m:MZ) (ch:List Int) (ptrs:List Nat):Prop:=
 w.ownsRow 0 198 1 (.slice (some ⟨gr,0,none⟩) ptrs.length cap) ptrs.length (ptrs.map ptrV)/\ptrs.length=ch.length+1/\∀(k p:Nat),ptrs[k]?=some p->Fu w (okR X Y g gr) p m (ch.take k)
structure Bc (w:World) (X Y:Nat->Prop) (g gr cap:Nat) (m:MZ) (s:RS) (ptrs:List Nat):Prop where
 blk:ze w g 202 #[.slice (some ⟨gr,0,none⟩) ptrs.length cap,.bool s.done,.int .i64 s.steps]
 xg:X g
 xr:X gr
 ne:g≠gr
 yg:¬ Y g
 yr:¬ Y gr
 row:RtRow w X Y g gr cap m s.ch ptrs
structure zu (X:Nat->Prop) (w w':World):Prop where
 os:w'.os=w.os
 tape:w'.tape=w.tape
 output:w'.output=w.output
 size:w.heap.size<=w'.heap.size
 block:∀b,b<w.heap.size->¬ X b->w'.heap[b]?=w.heap[b]?
theorem zu.refl (X:Nat->Prop) (w:World):zu X w w:=⟨rfl,rfl,rfl,Fy _,fun _ _ _=>rfl⟩
theorem zu.of_ext {X:Nat->Prop} {w w':World} (h:za w w'):zu X w w':=⟨h.os,h.tape,h.output,h.size,fun b D _=>h.block b D⟩
theorem zu.trans {X X':Nat->Prop} {a b c:World} (h:zu X a b) (D:zu X' b c) (J:∀k,k<a.heap.size->X' k->X k):zu X a c:=
 ⟨D.os.trans h.os,D.tape.trans h.tape,D.output.trans h.output,FA h.size D.size,fun k E I=>(D.block k (zam E h.size) (fun G=>I (J k E G))).trans (h.block k E I)⟩
theorem zu.same {X ok:Nat->Prop} {w w':World} (h:zu X w w') (G:∀b,ok b->¬ X b):Ao ok w w':=fun b E D=>h.block b D (G b E)
theorem zu.below {X:Nat->Prop} {w w':World} (h:zu X w w') (G:B<=w.heap.size) (D:∀b,X b->B<=b):Below B w w':=
 ⟨h.os,h.tape,h.output,h.size,fun b I=>h.block b (by omega) (fun E=>by have:=D b E;omega)⟩
section
variable {w w':World} {X Y X' Y':Nat->Prop} {g gr cap:Nat} {m:MZ} {s:RS} {ptrs:List Nat} {ch:List Int}
theorem row_keep {n c:Nat} {e:TypeId} {size:Nat} (h:w.ownsRow B e size (.slice (some ⟨gr,0,none⟩) n c) n xs) (E:w'.heap[gr]?=w.heap[gr]?):w'.ownsRow B e size (.slice (some ⟨gr,0,none⟩) n c) n xs:=by
 obtain ⟨I,⟨h0,_⟩ | ⟨g',cap',cur,D,h1,h2,h3⟩⟩:=h
 ·cases h0
 ·have G:g'=gr:=by injection D with D;injection D with D;injection D with D;exact D.symm
  subst G;exact ⟨I,.inr ⟨g',cap',cur,D,h1,E.trans h2,h3⟩⟩
theorem row_shrink {n c:Nat} {e:TypeId} (h:w.ownsRow B e 1 (.slice (some ⟨gr,0,none⟩) n c) n xs) (M:k<=n):w.ownsRow B e 1 (.slice (some ⟨gr,0,none⟩) k c) k (xs.take k):=by
 obtain ⟨J,⟨h0,_⟩ | ⟨g',cap',cur,D,h1,h2,h3,h4,E,G⟩⟩:=h
 ·cases h0
 ·injection D with D O I;injection D with D;injection D with D;subst D I;refine ⟨by rw [za3,J];omega,.inr ⟨gr,c,cur,rfl,h1,h2,by omega,h4,E,?_⟩⟩;rw [<-G,List.take_take];congr 1;omega
theorem RtRow.keep (h:RtRow w X Y g gr cap m ch ptrs) (J:∀b,b<w.heap.size->(X b/\b≠g)\/Y b->w'.heap[b]?=w.heap[b]?) (E:X gr) (I:g≠gr):RtRow w' X Y g gr cap m ch ptrs:=by
 obtain ⟨h1,h2,h3⟩:=h;have D:gr<w.heap.size:=(h1.lt gr rfl).2;refine ⟨row_keep h1 (J gr D (.inl ⟨E,Ne.symm I⟩)),h2,fun k p hp=>(h3 k p hp).keep fun b hb G=>J b G ?_⟩;rcases hb with hb | hb
 ·exact .inl ⟨hb.1,hb.2.1⟩
 ·exact .inr hb
theorem RtRow.last (h:RtRow w X Y g gr cap m ch ptrs):∃p,ptrs[ch.length]?=some p/\Fu w (okR X Y g gr) p m ch/\w.cell? ⟨gr,ch.length,none⟩=some (ptrV p):=by
 obtain ⟨h1,h2,h3⟩:=h;have D:ch.length<ptrs.length:=by omega
 refine ⟨ptrs[ch.length],Fw D,by have:=h3 _ _ (Fw D);rwa [FJ] at this,?_⟩;rw [World.ownsRow.cellAt h1 _ (by omega),zat,Fw D];rfl
theorem Bc.same (h:Bc w X Y g gr cap m s ptrs) (D:∀b,b<w.heap.size->X b\/Y b->w'.heap[b]?=w.heap[b]?):Bc w' X Y g gr cap m s ptrs:=
 ⟨(D g (zd h.blk) (.inl h.xg)).trans h.blk,h.xg,h.xr,h.ne,h.yg,h.yr,h.row.keep (fun b E hx=>D b E (by rcases hx with hx | hx;exact .inl hx.1;exact .inr hx)) h.xr h.ne⟩
theorem Bc.ext (h:Bc w X Y g gr cap m s ptrs) (D:za w w'):Bc w' X Y g gr cap m s ptrs:=h.same fun b E _=>D.block b E
end
end
section
open Go.RowKit Go.Shelf
attribute [local go_sem ↓] Go.wp_at_zero Go.wp_at_succ
abbrev Fs (B:Nat) (bs:List Value) (w:World):Prop:=Lib.IsBuilderF 134 5 B B bs w
abbrev BuiU (B:Nat) (bs:List Value) (w:World):Prop:=Lib.BuilderAtF 134 5 B B (.pointer (some ⟨B,0,none⟩)) bs w
theorem Fs.old {w w':World} (h:Fs B bs w) (D:za w w'):Fs B bs w':=by
 have f:∀p,Lib.BuilderAtF 134 5 B B p bs w->Lib.BuilderAtF 134 5 B B p bs w':=fun p h=>by
  have G:=h.lt;obtain ⟨J,v,M,E,I⟩:=h;exact ⟨J,v,(D.block B G).trans M,E.kept (row:=none) ⟨D.os,D.tape,D.output,D.size,fun k O _=>D.block k O⟩ (by cases h:v.ownBlock <;> simp),I⟩
 exact h.imp (f _) (f _)
theorem Fs.new (w:World):Fs w.heap.size [] (w.alloc (.cells #[.pointer none,.slice none 0 0] 134)):=Lib.IsBuilderF.of (Lib.fresh_isBuilder _ _ w)
theorem ptrInfo:∃j,Tryz.prog.info? 134=some j/\j.size=2:=Option.map_eq_some_iff.1 sExt.sizeBuilder
theorem ccUsed (B:Nat) (w:World) (h0:w.cell? ⟨B,0,none⟩=some (.pointer (some ⟨B,0,none⟩))):Calls Tryz.prog 152 #[.pointer (some ⟨B,0,none⟩)] w fun e w'=>e=.returned (.tuple #[])/\w=w':=by
 obtain ⟨j,D,-⟩:=ptrInfo;have E:=Lib.run_neq_ptr_same w ⟨B,0,none⟩ Tryz.underlying132 D
 go_enter Tryz.func152,Tryz.ntmps152
 go_wp2;exact bodyPost_end (results_none rfl _ _ _) rfl ⟨rfl,rfl⟩
theorem ccNew (B:Nat) (w:World) (h0:w.cell? ⟨B,0,none⟩=some (.pointer none)) (G:w.shape? B=some (134,2)) (hf:w.frozen? ⟨B,0,none⟩=false):Calls Tryz.prog 152 #[.pointer (some ⟨B,0,none⟩)] w fun e w'=>e=.returned (.tuple #[])/\w'=w.setCell ⟨B,0,none⟩ (.pointer (some ⟨B,0,none⟩)):=by
 obtain ⟨j,E,D⟩:=ptrInfo;have c1:=Lib.run_to_unsafe w ⟨B,0,none⟩ Tryz.underlying132 Tryz.underlying239 E (by rw [D];decide) G (Nat.zero_lt_succ 1);have c2:=run_callFunc_extern Tryz.func208 (by kernel_rfl) (by kernel_rfl) (by kernel_rfl) (e:=Extern.AbiNoEscape.same) (by kernel_rfl) (args:=#[.pointer (some ⟨B,0,none⟩)]) (w:=w);have c3:=Lib.run_from_unsafe w ⟨B,0,none⟩ Tryz.underlying239 Tryz.underlying132 E G sExt.liesBuilder;rw [Lib.run_noEscape] at c2
 go_enter Tryz.func152,Tryz.ntmps152
 go_wp2;exact bodyPost_end (results_none rfl _ _ _) rfl ⟨rfl,rfl⟩
theorem cc_calls {w:World} (h:Fs B bs w):Calls Tryz.prog 152 #[.pointer (some ⟨B,0,none⟩)] w fun e w'=>e=.returned (.tuple #[])/\BuiU B bs w'/\Below B w w':=by
 rcases h with h | h
 ·refine (ccNew B w h.cell0 h.shape h.frozen0).mono ?_;rintro e w' ⟨rfl,rfl⟩;exact ⟨rfl,h.used _,(Below.refl B w).setCell (p:=⟨B,0,none⟩) (Fy _) _⟩
 ·refine (ccUsed B w h.cell0).mono ?_;rintro e w' ⟨rfl,rfl⟩;exact ⟨rfl,h,Below.refl B w⟩
theorem DG {w:World} {b:Nat} (h:w.heap[b]?=some o):b<w.heap.size:=(za7.1 h).1
theorem Ef {w:World} (c:Int) (h:Fs B bs w) (hl:bs.length+1<=140737488355328):
  Calls Tryz.prog 169 #[.pointer (some ⟨B,0,none⟩),.int .u8 c] w fun e w'=>e=.returned .nilIface/\BuiU B (bs++[.int .u8 c]) w'/\Below B w w':=by
 obtain ⟨i0,hi,V,a0,a1⟩:=info_parts sExt.infoByte;have H:=zh h;clear h
 go_enter Tryz.func169,Tryz.ntmps169
 go_wp2_with fail
 refine (cc_calls H.out).mono ?_;rintro e w1 ⟨rfl,⟨hB,v,I,E,Q⟩,M⟩;have c1:w1.cell? ⟨B,1,none⟩=some v:=by rw [Lib.cell_of_heap I];rfl
 have O:=DG I
 go_wp2_with (at_builtin;refine wpList_append_ownF _ rfl _ _ 76 rfl B 5 i0 (.int .u8 0) 1 1 Tryz.underlying76 hi V a0 a1 rfl (by decide) _ _ _ rfl (E.alloc _) ⟨w1.heap.size,0,none⟩ 1 1 [.int .u8 c] rfl rfl ?c1 ?c2 ?c3 ?c4 ?c5 ?_)
 case c1=>
  intro j u J
  match j,J with
  | 0,J=>simp at J;subst J;simp [Addr.add]
 case c2=>intro u hu;simp at hu;subst hu;rfl
 case c3=>unfold maxLen;omega
 case c4=>omega
 case c5=>simp;omega
 intro v' w2 D hg _
 have G:w2.heap[B]?=some (.cells #[.pointer (some ⟨B,0,none⟩),v] 134 (0,0)):=by
  rw [hg.block B (by simp;omega) (fun e=>Q e.symm),Lib.alloc_old w1 _ B O];exact I
 have d1:w2.cell? ⟨B,1,none⟩=some v:=by rw [Lib.cell_of_heap G];rfl
 have f1:w2.frozen? ⟨B,1,none⟩=false:=Lib.frozen_of_heap G 1
 obtain ⟨ao,n',cap,rfl⟩:∃ao n' cap,v'=.slice ao n' cap:=by
  rcases D.2 with ⟨U,_⟩ | ⟨g,cap,cur,fz,U,_⟩
  ·exact ⟨_,_,_,U⟩
  ·exact ⟨_,_,_,U⟩
 go_wp2;go_ret;refine ⟨rfl,Lib.BuilderAtF.put (T:=134) (e:=5) hB G (bs':=bs++[.int .u8 c]) (by simpa using D) (by decide),?_⟩;exact ((M.alloc (by omega) _).grown hg (by simp;omega) (fun k hk=>(E.lt k hk).1)).setCell (p:=⟨B,1,none⟩) hB _
theorem wString_calls {w:World} (s:ByteArray) (h:Fs B bs w) (hl:bs.length+s.size<=140737488355328):
  Calls Tryz.prog 81 #[.pointer (some ⟨B,0,none⟩),.string s] w fun e w'=>e=.returned (.tuple #[.int .i64 s.size,.nilIface])/\BuiU B (bs++Lib.strCells s) w'/\Below B w w':=by
 obtain ⟨i0,hi,U,V,a0⟩:=info_parts sExt.infoByte;have H:=zh h;clear h
 go_enter Tryz.func81,Tryz.ntmps81
 go_wp2_with fail
 refine (cc_calls H.out).mono ?_;rintro e w1 ⟨rfl,⟨hB,v,I,E,O⟩,J⟩;have c1:w1.cell? ⟨B,1,none⟩=some v:=by rw [Lib.cell_of_heap I];rfl
 have M:=DG I
 go_wp2_with (at_builtin;refine Lib.wpList_append_own_stringF _ rfl _ _ 76 9 rfl B 5 i0 Tryz.underlying76 Tryz.underlying9 hi U V a0 _ _ _ rfl E s rfl ?c3 ?c4 ?c5 ?_)
 case c3=>unfold maxLen;omega
 case c4=>omega
 case c5=>omega
 intro v' w2 D hg _
 have G:w2.heap[B]?=some (.cells #[.pointer (some ⟨B,0,none⟩),v] 134 (0,0)):=by
  rw [hg.block B M (fun e=>O e.symm)];exact I
 have d1:w2.cell? ⟨B,1,none⟩=some v:=by rw [Lib.cell_of_heap G];rfl
 have f1:w2.frozen? ⟨B,1,none⟩=false:=Lib.frozen_of_heap G 1
 obtain ⟨ao,n',cap,rfl⟩:∃ao n' cap,v'=.slice ao n' cap:=by
  rcases D.2 with ⟨Q,_⟩ | ⟨g,cap,cur,fz,Q,_⟩
  ·exact ⟨_,_,_,Q⟩
  ·exact ⟨_,_,_,Q⟩
 go_wp2
 go_ret2
 refine ⟨rfl,Lib.BuilderAtF.put (T:=134) (e:=5) hB G (bs':=bs++Lib.strCells s) (by simpa [Lib.strCells_length] using D) (by decide),?_⟩;exact (J.grown hg (by omega) (fun k hk=>(E.lt k hk).1)).setCell (p:=⟨B,1,none⟩) hB _
theorem Ez {w:World} (h:Fs B (Lib.byteCells l) w) (D:B<=w.heap.size):Calls Tryz.prog 86 #[.pointer (some ⟨B,0,none⟩)] w fun e w'=>e=.returned (.string ⟨l.toArray⟩)/\Below B w w':=
 (Any.Builder_String_any_k sStr sExt B B l w h D).mono fun e w' h=>⟨h.1,h.2.2.1⟩
structure zv (w:World):Prop where
 tab : Lib.TabIs Tryz.prog w "internal/strconv.uint64pow10" .u64 Lib.pow10Tab
 syn : ∃ tp p, w.var? Tryz.prog "strconv.ErrSyntax" = some #[.iface tp p]
 rng : ∃ tp p, w.var? Tryz.prog "strconv.ErrRange" = some #[.iface tp p]
theorem var_ext {w w':World} (G:za w w') {n:String} (h:w.var? Tryz.prog n=some cs):w'.var? Tryz.prog n=some cs:=by
 unfold World.var? at h⊢
 cases E:Tryz.prog.globalNamed n with
 | none=>rw [E] at h;cases h
 | some g=>
  rw [E] at h;simp only [Option.bind_some] at h⊢
  split at h
  ·rename_i D
   rw [G.block g (DG D),D];exact h
  ·cases h
theorem zv.ext {w w':World} (h:zv w) (D:za w w'):zv w':=
 ⟨var_ext D h.tab,h.syn.imp fun _ ⟨p,h⟩=>⟨p,var_ext D h⟩,h.rng.imp fun _ ⟨p,h⟩=>⟨p,var_ext D h⟩⟩
theorem CE {b:List UInt8} (h:a=b):Ending.returned (.string ⟨a.toArray⟩)=.returned (.string ⟨b.toArray⟩):=by rw [h]
def Cz (n:Int):Prop:=-9223372036854775808<=n/\n<=9223372036854775807
theorem grow_ext (w:World) (os:Array Obj):za w (Sort.grow w os):=⟨rfl,rfl,rfl,by simp [Sort.grow],fun k D=>by simp [Sort.grow,Array.getElem?_append,D]⟩
theorem itoa_calls (w:World) (E:zv w) (D:Cz n):Calls Tryz.prog 107 #[.int .i64 n] w fun e w'=>e=.returned (.string ⟨(Lib.itoa n).toArray⟩)/\za w w':=by
 refine (Any.strconv_Itoa sItoa n D.1 D.2 w E.tab).mono ?_;rintro e w' ⟨rfl,k,os,rfl⟩;exact ⟨rfl,((za.refl w).drewN k).trans (grow_ext _ os)⟩
def wI (n:Int):List UInt8:=Lib.itoa n++[59]
def wT (s:List UInt8):List UInt8:=Lib.itoa s.length++58 :: s
def wL (l:List Int):List UInt8:=91 :: (l.flatMap wI++[93])
theorem Cn (D:Cz n):(Lib.itoa n).length<=21:=Lib.itoa_length_le n D.1 D.2
theorem Ca (D:Cz n):(wI n).length<=22:=by have:=Cn D;simp [wI];omega
theorem wIs_len:∀{l:List Int},(∀x∈l,Cz x)->(l.flatMap wI).length<=22*l.length
 | [],_=>by simp
 | x :: l,h=>by
  have h1:=Ca (h x (zaw ..));have h2:=wIs_len fun y D=>h y (zaf x D)
  rw [List.flatMap_cons,FG,zaG];omega
theorem zJ {x y:List UInt8} {w:World} (h:x.length+y.length<=9223372036854775807):(Op.stringOp .add ⟨x.toArray⟩ ⟨y.toArray⟩).run Tryz.prog w=.ok (.string ⟨(x++y).toArray⟩) w:=by
 rw [run_string_add_sum w _ _ (by simpa [ByteArray.size] using h),ByteArray.mk_append_mk]
theorem ER (w:World) (J:zv w) (E:Cz n):Calls Tryz.prog 51 #[.int .i64 n] w fun e w'=>e=.returned (.string ⟨(wI n).toArray⟩)/\za w w':=by
 have G:=zh (itoa_calls w J E);have I:=Cn E;obtain ⟨d,D⟩:=zaI (Lib.itoa n);have M:Hid (wI n=d++[59]):=by rw [D];rfl
 rw [<-D] at I G;have Q:∀w,(Op.stringOp .add ⟨d.toArray⟩ ⟨#[59]⟩).run Tryz.prog w=.ok (.string ⟨(d++[59]).toArray⟩) w:=fun w=>zJ (y:=[59]) (by simp;omega)
 clear D I J E
 go_enter Tryz.func51,Tryz.ntmps51
 go_wp2_with fail
 refine G.out.mono ?_;rintro e w1 ⟨rfl,O⟩
 go_wp2_with fail
 go_ret;exact ⟨CE M.out.symm,O⟩
theorem CY {s:List UInt8} (w:World) (J:zv w) (U:s.length<=9223372036854775000):Calls Tryz.prog 139 #[.string ⟨s.toArray⟩] w fun e w'=>e=.returned (.string ⟨(wT s).toArray⟩)/\za w w':=by
 have G:Cz (s.length:Int):=⟨by omega,by omega⟩;have I:=zh (itoa_calls w J G);have D:=Cn G;obtain ⟨d,E⟩:=zaI (Lib.itoa (s.length:Int));have M:Hid (wT s=d++58 :: s):=by (show wT s=_);rw [E];rfl
 rw [<-E] at D I;have V:∀w,(Op.stringOp .add ⟨d.toArray⟩ ⟨#[58]⟩).run Tryz.prog w=.ok (.string ⟨(d++[58]).toArray⟩) w:=fun w=>zJ (y:=[58]) (by simp;omega)
 have Q:∀w,(Op.stringOp .add ⟨(d++[58]).toArray⟩ ⟨s.toArray⟩).run Tryz.prog w=.ok (.string ⟨(d++58 :: s).toArray⟩) w:=fun w=>by have:=zJ (w:=w) (x:=d++[58]) (y:=s) (by simp;omega);rwa [List.append_assoc] at this
 clear E D U J G
 go_enter Tryz.func139,Tryz.ntmps139
 go_wp2_with fail
 refine I.out.mono ?_;rintro e w1 ⟨rfl,O⟩
 go_wp2_with fail
 go_ret;exact ⟨CE M.out.symm,O⟩
theorem bui_bytes (l:List UInt8) (c:UInt8):Lib.byteCells l++[Value.int .u8 c.toNat]=Lib.byteCells (l++[c]):=by simp [Lib.byteCells]
theorem bui_str (l s:List UInt8):Lib.byteCells l++Lib.strCells ⟨s.toArray⟩=Lib.byteCells (l++s):=by simp [Lib.byteCells,Lib.strCells]
theorem bui_len (l:List UInt8):(Lib.byteCells l).length=l.length:=by simp [Lib.byteCells]
theorem wInts_calls {ok:Nat->Prop} {l:List Int} (w:World) (hv:zv w) (hl:zg w ok v l) (hn:∀x∈l,Cz x) (b7:l.length<=1000000000000):Calls Tryz.prog 108 #[v,.func (.func 51) #[] #[]] w fun e w'=>e=.returned (.string ⟨(wL l).toArray⟩)/\za w w':=by
 have HL:=zh hl;have HV:=zh hv;have HN:=zh hn;obtain ⟨A,c,rfl,hc,hr⟩:=hl;clear hn hv hr
 go_enter Tryz.func108,Tryz.ntmps108
 go_wp2_with fail
 have a4:=Fs.new w;refine (Ef 91 a4 (by simp)).mono ?_;rintro e w1 ⟨rfl,a5,a6⟩;have a1:Hid (Fs w.heap.size (Lib.byteCells [91]) w1):=.inr a5;have a2:Hid (za w w1):=((Below.refl _ _).alloc (Fy _) _).trans a6;clear a4 a5 a6
 go_wp2_with fail
 go_loopw [11] (fun i wr=>∃k:Nat,k<=l.length/\i=.int .i64 k/\Hid (Fs w.heap.size (Lib.byteCells (91 :: (l.take k).flatMap wI)) wr)/\Hid (za w wr)) (fun i _=>l.length - (intOf i).toNat)
 case atStart=>exact ⟨0,FN _,rfl,a1,a2⟩
 clear a1 a2
 case round=>
  obtain ⟨k,hk,rfl,HB,HE⟩:=hrel
  have D:(91 :: (l.take k).flatMap wI).length<=1+22*l.length:=by
   have h1:=wIs_len (l:=l.take k) fun x hx=>HN.out x (List.mem_of_mem_take hx)
   simp at h1⊢;omega
  by_cases U:k<l.length
  ·have hR:=HL.out.below HE.out;obtain ⟨A',c',e',-,hr⟩:=hR;injection e' with e1 e2 e3;subst e1;obtain ⟨b,off,rfl,-,G⟩:=Ai hr U U;obtain ⟨x,hx⟩:=zaI (l[k]);rw [<-hx] at G;have V:Cz x:=by rw [hx];exact HN.out _ (Fz _)
   have hs:(l.take (k+1)).flatMap wI=(l.take k).flatMap wI++wI x:=by rw [FF U,List.flatMap_append,hx];simp
   have HS:=zh hs;have HX:=zh (Ca V);have HC:=zh (ER wr (HV.out.ext HE.out) V);have HR:=zh D;clear hx V hs hr e2 e3 D
   go_wp2_with fail
   refine HC.out.mono ?_;rintro e w2 ⟨rfl,Q⟩;have E:=HB.out.old Q;have I:(Lib.byteCells (91 :: (l.take k).flatMap wI)).length+(wI x).toArray.size<=140737488355328:=by have:=HX.out;have:=HR.out;rw [bui_len];simp at this⊢;omega
   go_wp2_with fail
   refine (wString_calls ⟨(wI x).toArray⟩ E I).mono ?_;rintro e w3 ⟨rfl,O,J⟩;rw [bui_str] at O;have b2:Hid (Fs w.heap.size (Lib.byteCells (91 :: (l.take (k+1)).flatMap wI)) w3):=by rw [HS.out];exact .inr O
   have b3:Hid (za w w3):=Below.trans (HE.out.trans Q) J;clear E I O J Q G
   go_wp2_with fail
   go_roundw
   case rel=>exact ⟨k+1,by omega,by go_num,b2,b3⟩
   case measure=>simp [intOf];omega
  ·obtain rfl:k=l.length:=by omega
   rw [FJ] at HB D;have I:(Lib.byteCells (91 :: l.flatMap wI)).length+1<=140737488355328:=by rw [bui_len];omega
   have b4:=zh I;clear D I
   go_wp2_with fail
   refine (Ef 93 HB.out b4.out).mono ?_;rintro e w2 ⟨rfl,E,a7⟩
   have M:Fs w.heap.size (Lib.byteCells (wL l)) w2:=by
    have:=E;rw [show Value.int .u8 93=Value.int .u8 (93:UInt8).toNat from rfl,bui_bytes] at this;exact .inr this
   have b1:=zh M;have a3:Hid (za w w2):=Below.trans HE.out a7;clear E M a7
   go_wp2_with fail
   refine (Ez b1.out a3.out.size).mono ?_;rintro e w3 ⟨rfl,J⟩
   go_wp2_with fail
   go_ret;exact ⟨rfl,Below.trans a3.out J⟩
theorem Ec {ok:Nat->Prop} {l:List Int} (w:World) (I:zv w) (E:zg w ok v l) (G:∀x∈l,Cz x) (D:l.length<=1000000000000):Calls Tryz.prog 52 #[v] w fun e w'=>e=.returned (.string ⟨(wL l).toArray⟩)/\za w w':=by
 have J:=zh (wInts_calls w I E G D);obtain ⟨A,c,rfl,-,-⟩:=E;clear I G
 go_enter Tryz.func52,Tryz.ntmps52
 go_wp2_with fail
 refine J.out.mono ?_;rintro e w1 ⟨rfl,M⟩
 go_wp2_with fail
 go_ret;exact ⟨rfl,M⟩
end
section
open Go.RowKit
attribute [local go_sem ↓] Go.wp_at_zero Go.wp_at_succ
theorem last_calls {g gr P cap n p:Nat} (w:World) (D:w.cell? ⟨g,0,none⟩=some (.slice (some ⟨gr,0,none⟩) P cap)) (E:w.cell? ⟨gr,n,none⟩=some (ptrV p)) (I:P=n+1) (G:P<=cap) (Q:n<=1000):
  Calls Tryz.prog 147 #[.pointer (some ⟨g,0,none⟩)] w fun e w'=>e=.returned (ptrV p)/\zT w w':=by
 have r0:=za.rule D;have r1:=za.rule E;have J:(0:Int)<=(n:Int):=by omega
 have M:(n:Int)<(P:Int):=by omega
 have O:IntKind.i64.wrap ((P:Int) - 1)=(n:Int):=by rw [zag];omega
 clear D E I;have U:=za.refl w
 go_enter Tryz.func147,Tryz.ntmps147
 go_wp2_with fail
 go_quiet (fail)
 go_wp2;go_ret;exact ⟨rfl,(zT.refl w).more _⟩
theorem last_c {w w':World} {X Y:Nat->Prop} {g gr cap p:Nat} {m:MZ} {s:RS} {ptrs:List Nat} (h:Bc w X Y g gr cap m s ptrs) (hp:ptrs[s.ch.length]?=some p) (G:s.ch.length<=1000):
  Calls Tryz.prog 147 #[.pointer (some ⟨g,0,none⟩)] w fun e w'=>e=.returned (.pointer (some ⟨p,0,none⟩))/\zT w w':=by
 obtain ⟨p',D,_,E⟩:=h.row.last;rw [hp] at D;injection D with D;subst D;exact last_calls w (h.blk.cell (k:=0) rfl) E h.row.2.1 (Bq h.row.1) G
theorem steps_c {X Y:Nat->Prop} {g gr cap:Nat} {m:MZ} {s:RS} {ptrs:List Nat} (w:World) (h:Bc w X Y g gr cap m s ptrs):
  Calls Tryz.prog 84 #[.pointer (some ⟨g,0,none⟩)] w fun e w'=>e=.returned (.int .i64 s.steps)/\w=w':=by
 have D:w.cell? ⟨g,2,none⟩=some (.int .i64 s.steps):=h.blk.cell (k:=2) rfl;clear h
 go_enter Tryz.func84,Tryz.ntmps84
 go_wp2;go_ret;exact ⟨rfl,rfl⟩
theorem choices_c {X Y:Nat->Prop} {g gr cap:Nat} {m:MZ} {s:RS} {ptrs:List Nat} (w:World) (h:Bc w X Y g gr cap m s ptrs) (O:s.ch.length<=1000):
  Calls Tryz.prog 85 #[.pointer (some ⟨g,0,none⟩)] w fun e w'=>∃v',e=.returned v'/\Mk w w' v' s.ch:=by
 obtain ⟨p,hp,G,E⟩:=h.row.last;have U:=zh (last_c (w':=w) h hp O);have a4:w.cell? ⟨g,0,none⟩=some (.slice (some ⟨gr,0,none⟩) ptrs.length cap):=h.blk.cell (k:=0) rfl;have J:=Bq h.row.1;have D:=h.row.2.1;clear h hp E;obtain ⟨us,f,u,t,vc,vp,gu,h1,h2⟩:=G;obtain ⟨r0,r1,r2,r3,r4,r5,r6,r7,r8⟩:=h2.rules;have HS:=zh h2.ch;clear h1 h2;generalize ptrs.length=P at*;have a2:decide ((P:Int)=0)=false:=FC (by omega);have a3:((P:Int)==0)=false:=by rw [FM];omega
 have HN:=zh O;clear D
 go_enter Tryz.func85,Tryz.ntmps85
 go_wp2_with fail
 refine U.out.mono ?_;rintro e w1 ⟨rfl,M⟩;have Q:za w w1:=M.below _;clear M
 go_wp2_with fail
 refine (Ct _ (HS.out.below Q) (by have:=HN.out;omega)).mono ?_;rintro e w2 ⟨v',rfl,I⟩;have V:=zh (Q.mono_mk I);clear I
 go_wp2_with fail
 go_ret;exact ⟨_,rfl,V.out⟩
end
section
open Go.RowKit
section
variable {w w' W:World} {X Y:Nat->Prop} {g gr cap:Nat} {m:MZ} {s:RS} {ptrs:List Nat} {ch:List Int}
theorem Bc.okR_ne (h:Bc w X Y g gr cap m s ptrs) {b:Nat} (D:okR X Y g gr b):b≠g/\b≠gr:=by
 rcases D with ⟨_,h1,h2⟩ | hy
 ·exact ⟨h1,h2⟩
 ·exact ⟨fun e=>h.yg (e ▸ hy),fun e=>h.yr (e ▸ hy)⟩
theorem Bc.setg (h:Bc w X Y g gr cap m s ptrs) (j:Nat) (v:Value) {s':RS} (D:s'.ch=s.ch) (E:(#[.slice (some ⟨gr,0,none⟩) ptrs.length cap,.bool s.done,.int .i64 s.steps]:Array Value).setIfInBounds j v=#[.slice (some ⟨gr,0,none⟩) ptrs.length cap,.bool s'.done,.int .i64 s'.steps]):
  Bc (w.setCell ⟨g,j,none⟩ v) X Y g gr cap m s' ptrs:=
 ⟨by have:=h.blk.set (k:=j) v;rwa [E] at this,h.xg,h.xr,h.ne,h.yg,h.yr,by
  rw [D]
  exact h.row.keep (fun b E hx=>FH w ⟨g,j,none⟩ v b (by
   show b≠g;rcases hx with hx | hx
   ·exact hx.2
   ·exact fun e=>h.yg (e ▸ hx))) h.xr h.ne⟩
theorem Bc.done (h:Bc w X Y g gr cap m s ptrs) (d:Bool):Bc (w.setCell ⟨g,1,none⟩ (.bool d)) X Y g gr cap m ⟨s.ch,d,s.steps⟩ ptrs:=h.setg 1 _ rfl rfl
theorem Bc.stepsTo (h:Bc w X Y g gr cap m s ptrs) (n:Int):Bc (w.setCell ⟨g,2,none⟩ (.int .i64 n)) X Y g gr cap m ⟨s.ch,s.done,n⟩ ptrs:=h.setg 2 _ rfl rfl
theorem Bc.widen {X':Nat->Prop} (h:Bc w X Y g gr cap m s ptrs) (D:∀b,X b->X' b):Bc w X' Y g gr cap m s ptrs:=
 ⟨h.blk,D _ h.xg,D _ h.xr,h.ne,h.yg,h.yr,h.row.1,h.row.2.1,fun k p hp=>(h.row.2.2 k p hp).weaken fun b hb=>by
  rcases hb with hb | hb
  ·exact .inl ⟨D _ hb.1,hb.2⟩
  ·exact .inr hb⟩
theorem chg_setg {X:Nat->Prop} (w:World) (E:X g) (j:Nat) (v:Value):zu X w (w.setCell ⟨g,j,none⟩ v):=
 ⟨rfl,rfl,rfl,by simp [World.setCell],fun b _ D=>FH w ⟨g,j,none⟩ v b (by rintro rfl;exact D E)⟩
theorem zu.tr {X:Nat->Prop} {a b c:World} (h:zu X a b) (D:zu X b c):zu X a c:=h.trans D (fun _ _ h=>h)
theorem zu.ext_r {X:Nat->Prop} {a b c:World} (h:zu X a b) (D:za b c):zu X a c:=h.tr (zu.of_ext D)
theorem Bc.pop (h:Bc w X Y g gr cap m s ptrs) (M:k<=s.ch.length):Bc (w.setCell ⟨g,0,none⟩ (.slice (some ⟨gr,0,none⟩) (k+1) cap)) X Y g gr cap m ⟨s.ch.take k,s.done,s.steps⟩ (ptrs.take (k+1)):=by
 have G:=h.row.2.1;have E:(ptrs.take (k+1)).length=k+1:=by rw [za3];omega
 have D:∀b,(X b/\b≠g)\/Y b->(w.setCell ⟨g,0,none⟩ (.slice (some ⟨gr,0,none⟩) (k+1) cap)).heap[b]?=w.heap[b]?:=fun b hx=>FH w ⟨g,0,none⟩ _ b (by
  show b≠g;rcases hx with hx | hx
  ·exact hx.2
  ·exact fun e=>h.yg (e ▸ hx))
 have J:w.ownsRow 0 198 1 (.slice (some ⟨gr,0,none⟩) (k+1) cap) (k+1) ((ptrs.take (k+1)).map ptrV):=by
  rw [List.map_take];exact row_shrink h.row.1 (by omega)
 refine ⟨?_,h.xg,h.xr,h.ne,h.yg,h.yr,?_,?_,?_⟩
 ·have:=h.blk.set (k:=0) (.slice (some ⟨gr,0,none⟩) (k+1) cap);rw [E];exact this
 ·rw [E];exact row_keep J (D gr (.inl ⟨h.xr,Ne.symm h.ne⟩))
 ·simp only [za3];omega
 ·intro j p hp
  have I:j<k+1:=by
   rcases zah j (k+1) with h1 | h1
   ·exact h1
   ·rw [zae (by omega)] at hp;cases hp
  rw [List.getElem?_take_of_lt I] at hp;have:=h.row.2.2 j p hp;rw [List.take_take,Nat.min_eq_left (by omega)]
  exact this.keep fun b hb _=>D b (by
   rcases hb with hb | hb
   ·exact .inl ⟨hb.1,hb.2.1⟩
   ·exact .inr hb)
theorem Bc.push (h:Bc w X Y g gr cap m s ptrs) {v':Value} {w5:World} (a7:Fu w (okR X Y g gr) q m (s.ch++[n])) (a0:∀b,w.heap.size<=b->X b) (a1:∀b,Y b->b<w.heap.size)
  (O:w5.ownsRow 0 198 1 v' (ptrs.length+1) (ptrs.map ptrV++[ptrV q])) (U:(w.alloc o).grownBy w5 (some gr)) (hv:v'.ownBlock=some gr\/v'.ownBlock=some (w.heap.size+1)):
  ∃gr' cap',v'=.slice (some ⟨gr',0,none⟩) (ptrs.length+1) cap'/\Bc (w5.setCell ⟨g,0,none⟩ v') X Y g gr' cap' m ⟨s.ch++[n],s.done,s.steps⟩ (ptrs++[q])/\zu X w (w5.setCell ⟨g,0,none⟩ v'):=by
 obtain ⟨gr',cap',rfl,_,b1⟩:=World.ownsRow.form O (by omega)
 have G:gr'=gr\/gr'=w.heap.size+1:=by
  rcases hv with hv | hv
  ·left;simpa [Value.ownBlock] using hv
  ·right;simpa [Value.ownBlock] using hv
 have a4:g<w.heap.size:=zd h.blk;have b3:gr<w.heap.size:=(h.row.1.lt gr rfl).2;have a8:w.heap.size<=w5.heap.size:=FA (by simp) U.size
 have M:g≠gr':=by
  rcases G with rfl | rfl
  ·exact h.ne
  ·omega
 have I:∀b,b<w.heap.size->b≠gr->w5.heap[b]?=w.heap[b]?:=fun b D Q=>(U.block b (by simp;omega) (fun e=>Q (by injection e))).trans (zad _ _ _ D)
 have E:∀b,b<w.heap.size->b≠gr->b≠g->(w5.setCell ⟨g,0,none⟩ (.slice (some ⟨gr',0,none⟩) (ptrs.length+1) cap')).heap[b]?=w.heap[b]?:=fun b D Q a3=>(FH w5 ⟨g,0,none⟩ _ b a3).trans (I b D Q)
 have a6:∀b,okR X Y g gr b/\b<w.heap.size->okR X Y g gr' b:=by
  rintro b ⟨D,b0⟩;rcases D with ⟨h1,h2,h3⟩ | hy
  ·exact .inl ⟨h1,h2,by rcases G with rfl | rfl;exact h3;omega⟩
  ·exact .inr hy
 have J:∀(p:Nat) (c:List Int),Fu w (okR X Y g gr) p m c->Fu (w5.setCell ⟨g,0,none⟩ (.slice (some ⟨gr',0,none⟩) (ptrs.length+1) cap')) (okR X Y g gr') p m c:=fun p c hs=>
  (hs.bound.keep fun b D _=>E b D.2 (h.okR_ne D.1).2 (h.okR_ne D.1).1).weaken a6
 have V:=h.row.2.1;refine ⟨gr',cap',rfl,⟨?_,h.xg,?_,M,h.yg,?_,?_,?_,?_⟩,?_⟩
 ·have a2:ze w5 g 202 #[.slice (some ⟨gr,0,none⟩) ptrs.length cap,.bool s.done,.int .i64 s.steps]:=(I g a4 h.ne).trans h.blk;have:=a2.set (k:=0) (.slice (some ⟨gr',0,none⟩) (ptrs.length+1) cap');rw [FG,zak];exact this
 ·rcases G with rfl | rfl
  ·exact h.xr
  ·exact a0 _ (by omega)
 ·rcases G with rfl | rfl
  ·exact h.yr
  ·intro hy;have:=a1 _ hy;omega
 ·rw [FG,zak,za2];exact row_keep O (FH w5 ⟨g,0,none⟩ _ gr' (Ne.symm M))
 ·simp [V]
 ·intro k p hp;rcases zah k ptrs.length with hk | hk
  ·rw [FD hk] at hp;rw [List.take_append_of_le_length (by omega)];exact J _ _ (h.row.2.2 k p hp)
  ·have a5:k=ptrs.length:=by
    rcases zah k (ptrs++[q]).length with h1 | h1
    ·simp at h1;omega
    ·rw [zae h1] at hp;cases hp
   subst a5;rw [FE (Fy _)] at hp;have hq:q=p:=by simpa using hp
   subst hq;rw [List.take_of_length_le (by simp;omega)];exact J _ _ a7
 ·exact ⟨U.os,U.tape,U.output,by simpa [World.setCell] using a8,fun b D hx=>E b D (fun e=>hx (e ▸ h.xr)) (fun e=>hx (e ▸ h.xg))⟩
end
noncomputable def srch (m:MZ) (ch:List Int) (k:Nat) (b:Int):Option (List Int):=
 match aft m (ch.take k) b with
 | some n=>some (ch.take k++[n])
 | none=>backN m ch k
theorem srch_top (m:MZ) (ch:List Int):srch m ch ch.length (-1)=DE m ch:=by
 unfold srch DE;rw [FJ]
 all_goals (cases aft m ch (-1) <;> rfl)
theorem srch_back {m:MZ} {ch:List Int} (h:aft m (ch.take (k+1)) b=none):srch m ch (k+1) b=srch m ch k (ch.getD k 0):=by
 unfold srch;rw [h];rfl
theorem srch_zero {m:MZ} {ch:List Int} (h:aft m (ch.take 0) b=none):srch m ch 0 b=none:=by
 unfold srch;rw [h];rfl
theorem aft_none {m:MZ} {ch:List Int} {l:List Int} (D:l=Bn m ch) (h:∀n∈l,¬ (b<n/\AA m (ch++[n])=true)):aft m ch b=none:=by
 unfold aft;rw [List.find?_eq_none];intro n E;have:=h n (by rw [D];exact E);simp only [FK,FI];exact this
theorem aft_at {m:MZ} {ch:List Int} (E:i<(Bn m ch).length) (h:∀n∈(Bn m ch).take i,¬ (b<n/\AA m (ch++[n])=true)) (h1:b<(Bn m ch)[i]) (h2:AA m (ch++[(Bn m ch)[i]])=true):aft m ch b=some (Bn m ch)[i]:=by
 unfold aft;generalize Bn m ch=l at*;obtain ⟨x,D⟩:=zaI (l[i]);rw [<-D] at h1 h2⊢
 have I:l=l.take i++x :: l.drop (i+1):=by
  rw [D,List.getElem_cons_drop E,List.take_append_drop]
 rw [I,List.find?_append,List.find?_eq_none.2 (fun n G=>by
  have:=h n G;simp only [FK,FI];exact this)]
 simp [h1,h2]
end
section
open Go.RowKit Go.Shelf
attribute [local go_sem ↓] Go.wp_at_zero Go.wp_at_succ
def Cw (c:UInt8):List UInt8->Option (List UInt8×List UInt8)
 | []=>none
 | b :: l=>if b==c then some ([],l) else (Cw c l).map fun p=>(b :: p.1,p.2)
theorem cutAt_none {c:UInt8}:∀{l:List UInt8},Cw c l=none->Lib.indexByte l c=-1
 | [],_=>rfl
 | b :: l,h=>by
  unfold Cw at h;unfold Lib.indexByte
  split at h
  ·cases h
  ·rename_i D
   rw [Option.map_eq_none_iff] at h;rw [if_neg D,cutAt_none h];rfl
theorem CG {c:UInt8}:∀{l a b:List UInt8},Cw c l=some (a,b)->Lib.indexByte l c=a.length/\l=a++c :: b
 | [],a,b,h=>by cases h
 | x :: l,a,b,h=>by
  unfold Cw at h;unfold Lib.indexByte
  split at h
  ·rename_i D
   injection h with h;injection h with h1 h2;subst h1 h2;rw [if_pos D,(beq_iff_eq.1 D)];exact ⟨rfl,rfl⟩
  ·rename_i D
   obtain ⟨p,hp,e⟩:=Option.map_eq_some_iff.1 h;injection e with h1 h2;subst h1 h2;obtain ⟨h3,h4⟩:=CG (a:=p.1) (b:=p.2) hp;rw [if_neg D,h3,if_neg (by simp),h4];exact ⟨by simp,rfl⟩
theorem Cl (l:List UInt8) (n:Nat):(ByteArray.mk l.toArray).extract 0 n=⟨(l.take n).toArray⟩:=by
 apply ByteArray.ext;simp [ByteArray.data_extract]
theorem Eo (l:List UInt8) (n:Nat):(ByteArray.mk l.toArray).extract n l.length=⟨(l.drop n).toArray⟩:=by
 apply ByteArray.ext;simp [ByteArray.data_extract];exact List.take_of_length_le (by simp)
theorem lcut_no (w:World) (h:Cw c l=none):Calls Tryz.prog 246 #[.string ⟨l.toArray⟩,.string ⟨#[c]⟩] w fun e w'=>e=.returned (.tuple #[.string ⟨l.toArray⟩,.string ⟨#[]⟩,.bool false])/\w=w':=by
 have E:=zh (Any.stringslite_Index_one sIdx ⟨l.toArray⟩ c w);have G:=cutAt_none h;have D:Lib.indexByte (ByteArray.mk l.toArray).data.toList c=-1:=G;rw [D] at E;clear G D h
 go_enter Tryz.func246,Tryz.ntmps246
 go_wp2_with fail
 refine E.out.mono ?_;rintro e w1 ⟨rfl,rfl⟩
 go_wp2_with fail
 exact za5 (by simp [results,Tryz.results246,go_sem]) rfl ⟨rfl,rfl⟩
theorem lcut_yes {b:List UInt8} (w:World) (h:Cw c l=some (a,b)) (M:l.length<=9223372036854775000):Calls Tryz.prog 246 #[.string ⟨l.toArray⟩,.string ⟨#[c]⟩] w fun e w'=>e=.returned (.tuple #[.string ⟨a.toArray⟩,.string ⟨b.toArray⟩,.bool true])/\∃n,w'=w.drewN n:=by
 have E:=zh (Any.stringslite_Index_one sIdx ⟨l.toArray⟩ c w);obtain ⟨I,he⟩:=CG h;have D:Lib.indexByte (ByteArray.mk l.toArray).data.toList c=a.length:=I;rw [D] at E;have J:a.length+1<=l.length:=by rw [he];simp
 have G:=zh he;clear I D h he
 go_enter Tryz.func246,Tryz.ntmps246
 go_wp2_with fail
 refine E.out.mono ?_;rintro e w1 ⟨rfl,rfl⟩
 go_wp2_with fail
 go_quiet (fail)
 have e1:ByteArray.extract ⟨l.toArray⟩ 0 a.length=⟨a.toArray⟩:=by rw [Cl,G.out];simp
 have e2:ByteArray.extract ⟨l.toArray⟩ (a.length+1) l.length=⟨b.toArray⟩:=by rw [Eo,G.out];simp
 rw [e1,e2]
 go_wp2_with fail
 exact za5 (by simp [results,Tryz.results246,go_sem]) rfl ⟨rfl,_,rfl⟩
theorem cut_no (w:World) (h:Cw c l=none):Calls Tryz.prog 234 #[.string ⟨l.toArray⟩,.string ⟨#[c]⟩] w fun e w'=>e=.returned (.tuple #[.string ⟨l.toArray⟩,.string ⟨#[]⟩,.bool false])/\w=w':=by
 have D:=zh (lcut_no w h);clear h
 go_enter Tryz.func234,Tryz.ntmps234
 go_wp2_with fail
 refine D.out.mono ?_;rintro e w1 ⟨rfl,rfl⟩
 go_wp2_with fail
 exact za5 (by simp [results,Tryz.results234,go_sem]) rfl ⟨rfl,rfl⟩
theorem cut_yes {b:List UInt8} (w:World) (h:Cw c l=some (a,b)) (E:l.length<=9223372036854775000):Calls Tryz.prog 234 #[.string ⟨l.toArray⟩,.string ⟨#[c]⟩] w fun e w'=>e=.returned (.tuple #[.string ⟨a.toArray⟩,.string ⟨b.toArray⟩,.bool true])/\∃n,w'=w.drewN n:=by
 have D:=zh (lcut_yes w h E);clear h
 go_enter Tryz.func234,Tryz.ntmps234
 go_wp2_with fail
 refine D.out.mono ?_;rintro e w1 ⟨rfl,n,rfl⟩
 go_wp2_with fail
 exact za5 (by simp [results,Tryz.results234,go_sem]) rfl ⟨rfl,_,rfl⟩
abbrev RdAt (w:World) (r:Nat) (s:List UInt8×Bool):Prop:=ze w r 216 #[.string ⟨s.1.toArray⟩,.bool s.2]
theorem wNew_calls (l:List UInt8) (w:World):Calls Tryz.prog 112 #[.string ⟨l.toArray⟩] w fun e w'=>e=.returned (.pointer (some ⟨w.heap.size,0,none⟩))/\za w w'/\RdAt w' w.heap.size (l,false):=by
 go_enter Tryz.func112,Tryz.ntmps112
 go_wp2_with fail
 go_ret;exact ⟨rfl,(za.refl w).alloc _,ze.new _ _ _ rfl⟩
theorem EQ {s:List UInt8×Bool} (w:World) (h:RdAt w r s):Calls Tryz.prog 114 #[.pointer (some ⟨r,0,none⟩)] w fun e w'=>e=.returned (.bool s.2)/\w=w':=by
 have c1:=h.cell (k:=1) rfl;clear h
 go_enter Tryz.func114,Tryz.ntmps114
 go_wp2_with fail
 go_ret;exact ⟨rfl,rfl⟩
def AH (s:List UInt8×Bool):Nat:=if s.2=true then 0 else s.1.length
theorem wLeft_calls {s:List UInt8×Bool} (w:World) (h:RdAt w r s):Calls Tryz.prog 115 #[.pointer (some ⟨r,0,none⟩)] w fun e w'=>e=.returned (.int .i64 (AH s:Nat))/\w=w':=by
 have D:=zh (EQ w h);have c0:=h.cell (k:=0) rfl;obtain ⟨l,b⟩:=s;clear h;dsimp only at D c0
 cases b with
 | true=>
  go_enter Tryz.func115,Tryz.ntmps115
  go_wp2_with fail
  refine D.out.mono ?_;rintro e w1 ⟨rfl,rfl⟩
  go_wp2_with fail
  go_ret;exact ⟨rfl,rfl⟩
 | false=>
  go_enter Tryz.func115,Tryz.ntmps115
  go_wp2_with fail
  refine D.out.mono ?_;rintro e w1 ⟨rfl,rfl⟩
  go_wp2_with fail
  go_ret;exact ⟨rfl,rfl⟩
theorem Cs {X:Nat->Prop} {a b:World} (h:zu X a b) (g k:Nat) (v:Value) (E:X g):zu X a (b.setCell ⟨g,k,none⟩ v):=
 ⟨h.os,h.tape,h.output,FA h.size (by simp [World.setCell]),fun i G D=>(FH b ⟨g,k,none⟩ v i (fun e=>D (e ▸ E))).trans (h.block i G D)⟩
theorem CX (w:World) (h:ze w r 216 #[u,v]):Calls Tryz.prog 223 #[.pointer (some ⟨r,0,none⟩)] w fun e w'=>e=.returned (.tuple #[])/\zu (·=r) w w'/\RdAt w' r ([],true):=by
 have c0:=h.cell (k:=0) rfl;have c1:=h.cell (k:=1) rfl;have hf:∀k,w.frozen? ⟨r,k,none⟩=false:=fun k=>h.frozen k
 have H:=zh h;clear h
 go_enter Tryz.func223,Tryz.ntmps223
 go_wp2_with fail
 refine bodyPost_end (results_none rfl _ _ _) rfl ⟨rfl,Cs (X:=(·=r)) (Cs (zu.refl _ _) r 1 _ rfl) r 0 _ rfl,?_⟩;exact (H.out.set (k:=1) _).set (k:=0) _
def numP (c:UInt8) (l:List UInt8):Option (Int×List UInt8):=match Cw c l with
 | none=>none
 | some (a,b)=>match Lib.atoiAll a with
  | .ok v=>if Lib.itoa v=a then some (v,b) else none
  | _=>none
theorem chg_ext {X:Nat->Prop} {a b:World} (h:za a b):zu X a b:=zu.of_ext h
theorem chg_drew {X:Nat->Prop} (w:World) (n:Nat):zu X w (w.drewN n):=zu.of_ext ((za.refl w).drewN n)
def Cc (c:UInt8) (s:List UInt8×Bool):Option (Int×List UInt8):=if s.2=true then none else numP c s.1
def NumPost (r:Nat) (o:Option (Int×List UInt8)) (w:World) (e:Ending) (w':World):Prop:=
 zu (·=r) w w'/\(∀v b,o=some (v,b)->e=.returned (.tuple #[.int .i64 v,.bool true])/\RdAt w' r (b,false))/\(o=none->e=.returned (.tuple #[.int .i64 0,.bool false])/\RdAt w' r ([],true))
def NumFr (r:Nat) (a:Act):Prop:=∃u1 u2 u3 u4 u5 u6 u7 u8 u9 u10 u11 u12 u13 u14 u15 u16 u17 u18 u19 u20 u21 u22 u23 u24 u25 u26 u27 u28 u29 u30 u31 u32 u33 u34 u35 u36 u37 u38 u39 u40:Value,a={ tmps:=#[.pointer (some ⟨r,0,none⟩),u1,u2,u3,u4,u5,u6,u7,u8,u9,u10,u11,u12,u13,u14,u15,u16,u17,u18,u19,u20,u21,u22,u23,u24,u25,u26,u27,u28,u29,u30,u31,u32,u33,u34,u35,u36,u37,u38,u39,u40],defers:=[] }
theorem var_chg {w w':World} {X:Nat->Prop} (E:zu X w w') {n:String} {g:Nat} (I:Tryz.prog.globalNamed n=some g) (G:¬ X g) (h:w.var? Tryz.prog n=some cs):w'.var? Tryz.prog n=some cs:=by
 unfold World.var? at h⊢;rw [I] at h⊢;simp only [Option.bind_some] at h⊢
 split at h
 ·rename_i D
  rw [E.block g (DG D) G,D];exact h
 ·cases h
theorem atoi_ok {v:Int} (w:World) (h:Lib.atoiAll a=.ok v) (D:a.length<=281474976710656):Calls Tryz.prog 235 #[.string ⟨a.toArray⟩] w fun e w'=>e=.returned (.tuple #[.int .i64 v,.nilIface])/\za w w':=by
 refine (Any.strconv_Atoi_ok sAtoi ⟨a.toArray⟩ (by simp [ByteArray.size];omega) v h w).mono ?_;rintro e w' ⟨rfl,rfl | ⟨t,rfl⟩⟩
 ·exact ⟨rfl,za.refl _⟩
 ·exact ⟨rfl,Lib.bytesWorld_below _ _ _⟩
theorem atoi_err (w:World) (I:zv w) (h:∀v,Lib.atoiAll a≠.ok v) (G:a.length<=281474976710656):Calls Tryz.prog 235 #[.string ⟨a.toArray⟩] w fun e w'=>∃n N,e=.returned (.tuple #[.int .i64 n,.iface 282 (.pointer (some ⟨N,0,none⟩))])/\za w w':=by
 rcases D:Lib.atoiAll a with v | _ | _
 ·exact absurd D (h v)
 ·obtain ⟨tp,p,hp⟩:=I.syn;refine (Any.strconv_Atoi_syntax_var sAtoi ⟨a.toArray⟩ (by simpa [ByteArray.size] using G) D tp p w hp).mono ?_;rintro e w' ⟨N,rfl,-,-,E⟩;exact ⟨_,_,rfl,E⟩
 ·obtain ⟨tp,p,hp⟩:=I.rng;refine (Any.strconv_Atoi_range_var sAtoi ⟨a.toArray⟩ (by simpa [ByteArray.size] using G) D tp p w hp).mono ?_;rintro e w' ⟨N,rfl,-,-,E⟩;exact ⟨_,_,rfl,E⟩
def isVar (g : Nat) : Prop := ∃ n, (n = "internal/strconv.uint64pow10" ∨ n = "strconv.ErrSyntax" ∨ n = "strconv.ErrRange") ∧ Tryz.prog.globalNamed n = some g
theorem EP {w w':World} {X:Nat->Prop} (h:zv w) (hC:zu X w w') (hX:∀g,X g->¬ isVar g):zv w':=by
 have f : ∀ n, (n = "internal/strconv.uint64pow10" ∨ n = "strconv.ErrSyntax" ∨ n = "strconv.ErrRange") → ∀ cs, w.var? Tryz.prog n = some cs → w'.var? Tryz.prog n = some cs := fun n hn cs h => by
  cases hg:Tryz.prog.globalNamed n with
  | none=>unfold World.var? at h;rw [hg] at h;cases h
  | some g=>exact var_chg hC hg (fun hx=>hX g hx ⟨n,hn,hg⟩) h
 exact ⟨f _ (.inl rfl) _ h.tab,h.syn.imp fun _ ⟨p,h⟩=>⟨p,f _ (.inr (.inl rfl)) _ h⟩,h.rng.imp fun _ ⟨p,h⟩=>⟨p,f _ (.inr (.inr rfl)) _ h⟩⟩
theorem var_ne {w:World} (h:zv w) (E:ze w r 216 #[u,v]):∀g,g=r->¬ isVar g:=by
 rintro g rfl ⟨n,I,G⟩
 have f:∀cs,w.var? Tryz.prog n=some cs->cs=#[u,v]:=fun cs h=>by
  unfold World.var? at h;rw [G] at h;have D:w.heap[g]?=some (.cells #[u,v] 216 (0,0)):=E;simp only [Option.bind_some,D] at h;injection h with h;exact h.symm
 rcases I with rfl | rfl | rfl
 ·have:=congrArg Array.size (f _ h.tab);simp [Lib.pow10Tab] at this
 ·obtain ⟨tp,p,h⟩:=h.syn;have:=congrArg Array.size (f _ h);simp at this
 ·obtain ⟨tp,p,h⟩:=h.rng;have:=congrArg Array.size (f _ h);simp at this
theorem number_calls {s:List UInt8×Bool} (c:UInt8) (w:World) (hv:zv w) (h:RdAt w r s) (hl:s.1.length<=281474976710656):Calls Tryz.prog 218 #[.pointer (some ⟨r,0,none⟩),.string ⟨#[c]⟩] w (NumPost r (Cc c s) w):=by
 have HB:=zh (EQ w h);have HR:=zh h;have HV:=zh hv;obtain ⟨l,bad⟩:=s;have c0:=h.cell (k:=0) rfl;have hf:∀k,w.frozen? ⟨r,k,none⟩=false:=fun k=>h.frozen k
 dsimp only at HB HR c0 hl;clear h hv
 go_enter Tryz.func218,Tryz.ntmps218
 go_wp2_with fail
 refine wp_scope_jumps 0 (fun a' w'=>NumFr r a'/\Hid (Cc c (l,bad)=none)/\Hid (zu (·=r) w w'/\∃u v,ze w' r 216 #[u,v])) (fun _ _=>0) rfl ?_ ?_
 ·go_wp2_with fail
  refine HB.out.mono ?_;rintro e w1 ⟨rfl,rfl⟩
  cases bad with
  | true=>
   go_wp2_with fail
   go_step3
   exact ⟨rfl,⟨_,_,_,_,_,_,_,_,_,_,_,_,_,_,_,_,_,_,_,_,_,_,_,_,_,_,_,_,_,_,_,_,_,_,_,_,_,_,_,_,rfl⟩,rfl,zu.refl _ _,_,_,HR.out⟩
  | false=>
   cases hc:Cw c l with
   | none=>
    have O:Hid (Cc c (l,false)=none):=by (show Cc c (l,false)=none);unfold Cc numP;rw [hc];rfl
    have HC:=zh (cut_no w hc);clear hc
    go_wp2_with fail
    refine HC.out.mono ?_;rintro e w2 ⟨rfl,rfl⟩
    go_wp2_with fail
    go_step3
    exact ⟨rfl,⟨_,_,_,_,_,_,_,_,_,_,_,_,_,_,_,_,_,_,_,_,_,_,_,_,_,_,_,_,_,_,_,_,_,_,_,_,_,_,_,_,rfl⟩,O,Cs (X:=(·=r)) (zu.refl _ _) r 0 _ rfl,_,_,HR.out.set (k:=0) _⟩
   | some p=>
    obtain ⟨a,b⟩:=p;have HC:=zh (cut_yes w hc (by omega));have c6:a.length<=l.length:=by have:=(CG hc).2;rw [this];simp
    have O:Hid (Cc c (l,false)=match Lib.atoiAll a with | .ok v=>if Lib.itoa v=a then some (v,b) else none | _=>none):=by
     (show Cc c (l,false)=_);unfold Cc numP;rw [hc];rfl
    clear hc
    go_wp2_with fail
    refine HC.out.mono ?_;rintro e w2 ⟨rfl,n2,rfl⟩;have J:Hid (zu (·=r) w ((w.drewN n2).setCell ⟨r,0,none⟩ (.string ⟨b.toArray⟩))):=Cs (X:=(·=r)) (chg_drew w n2) r 0 _ rfl;have Q:Hid (RdAt ((w.drewN n2).setCell ⟨r,0,none⟩ (.string ⟨b.toArray⟩)) r (b,false)):=ze.set (k:=0) (show ze (w.drewN n2) r 216 _ from HR.out) (.string ⟨b.toArray⟩);have a2:=zh (EP HV.out J.out (var_ne HV.out HR.out));generalize b3:(w.drewN n2).setCell ⟨r,0,none⟩ (.string ⟨b.toArray⟩)=w3 at J Q a2
    go_wp2_with fail
    clear b3 HB c0 HC hf HR;by_cases U:∃v,Lib.atoiAll a=.ok v
    ·obtain ⟨v,hv⟩:=U;rw [hv] at O;have a8:=Lib.atoiAll_bounds hv;have I:=atoi_ok w3 hv (by omega);clear hv;refine I.mono ?_;rintro e w4 ⟨rfl,D⟩;have a0:=zh (itoa_calls w4 (a2.out.ext D) ⟨a8.1,a8.2⟩);have M:=zh D;by_cases hs:Lib.itoa v=a
     ·have G:Hid (Cc c (l,false)=some (v,b)):=by (show _=_);rw [O.out];simp [hs]
      rw [hs] at a0;clear I D hs O
      go_wp2_with fail
      refine a0.out.mono ?_;rintro e w5 ⟨rfl,E⟩;have V:Hid (zu (·=r) w w5):=(J.out.ext_r M.out).ext_r E;have a1:Hid (RdAt w5 r (b,false)):=(Q.out.ext M.out).ext E;clear E
      go_wp2_with fail
      simp only [Exit.jump]
      go_ret2
      exact ⟨V.out,(fun v' b' h=>by rw [G.out] at h;injection h with h;injection h with h1 h2;subst h1 h2;exact ⟨rfl,a1.out⟩),(fun h=>by rw [G.out] at h;cases h)⟩
     ·have G:Hid (Cc c (l,false)=none):=by (show _=_);rw [O.out];simp [hs]
      have c7:(Lib.itoa v==a)=false:=by simp [hs]
      clear I D hs O
      go_wp2_with fail
      refine a0.out.mono ?_;rintro e w5 ⟨rfl,E⟩;have V:Hid (zu (·=r) w w5):=(J.out.ext_r M.out).ext_r E;have a1:Hid (RdAt w5 r (b,false)):=(Q.out.ext M.out).ext E;clear E
      go_wp2_with fail
      go_step3
      exact ⟨rfl,⟨_,_,_,_,_,_,_,_,_,_,_,_,_,_,_,_,_,_,_,_,_,_,_,_,_,_,_,_,_,_,_,_,_,_,_,_,_,_,_,_,rfl⟩,G,V.out,_,_,a1.out⟩
    ·have G:Hid (Cc c (l,false)=none):=by
      (show _=_);rw [O.out]
      cases ha:Lib.atoiAll a with
      | ok v=>exact absurd ⟨v,ha⟩ U
      | _=>rfl
     have I:=atoi_err w3 a2.out (fun v h=>U ⟨v,h⟩) (by omega);clear U O;refine I.mono ?_;rintro e w4 ⟨n,N,rfl,D⟩;have b0:Hid (zu (·=r) w w4):=J.out.ext_r D;have b1:Hid (RdAt w4 r (b,false)):=Q.out.ext D;clear I D
     go_wp2_with fail
     go_step3
     exact ⟨rfl,⟨_,_,_,_,_,_,_,_,_,_,_,_,_,_,_,_,_,_,_,_,_,_,_,_,_,_,_,_,_,_,_,_,_,_,_,_,_,_,_,_,rfl⟩,G,b0.out,_,_,b1.out⟩
 ·rintro a' w' ⟨⟨u1,u2,u3,u4,u5,u6,u7,u8,u9,u10,u11,u12,u13,u14,u15,u16,u17,u18,u19,u20,u21,u22,u23,u24,u25,u26,u27,u28,u29,u30,u31,u32,u33,u34,u35,u36,u37,u38,u39,u40,rfl⟩,hn,hw⟩;obtain ⟨hC,u,v,hb⟩:=hw.out;have HF:=zh (CX w' hb);have HC:=zh hC;clear hC hb hw
  go_wp2_with fail
  refine HF.out.mono ?_;rintro e w1 ⟨rfl,b2,hr⟩
  go_wp2_with fail
  simp only [Exit.jump]
  go_ret2
  exact ⟨HC.out.tr b2,(fun v b h=>by rw [hn.out] at h;cases h),fun _=>⟨rfl,hr⟩⟩
end
section
open Go.RowKit
def TasksN (w:World) (ok:Nat->Prop) (v:Value) (l:List (List Int×List Int)) (ns:List ByteArray):Prop:=
 ns.length=l.length/\∃vs,AS w ok 3 v l.length vs/\∀(i:Nat) x s,l[i]?=some x->ns[i]?=some s->∃u1 u2,vs[i*3]?=some (.string s)/\vs[i*3+1]?=some u1/\vs[i*3+2]?=some u2/\zg w ok u1 x.1/\zg w ok u2 x.2
def Bx (w:World) (ok:Nat->Prop) (v:Value) (m:MZ) (ns:List ByteArray):Prop:=
 ∃f u t,v=.agg #[.int .i64 m.w,.int .i64 m.h,.int .i64 m.l,f,u,t]/\BG w ok f m.free/\AR w ok u m.up/\TasksN w ok t m.tasks ns
theorem TasksN.tasks {w:World} {ok:Nat->Prop} {l:List (List Int×List Int)} (h:TasksN w ok v l ns):Cv w ok v l:=by
 obtain ⟨I,vs,E,he⟩:=h;refine ⟨vs,E,fun i x D=>?_⟩;obtain ⟨G,-⟩:=za6.1 D;obtain ⟨u1,u2,h0,h1,h2,i1,i2⟩:=he i x _ D (Fw (by omega));exact ⟨_,u1,u2,h0,h1,h2,i1,i2⟩
theorem Bx.maze {w:World} {ok:Nat->Prop} {m:MZ} (h:Bx w ok v m ns):zL w ok v m:=by
 obtain ⟨f,u,t,rfl,h1,h2,h3⟩:=h;exact ⟨f,u,t,rfl,h1,h2,h3.tasks⟩
theorem Cv.nets {w:World} {ok:Nat->Prop} {l:List (List Int×List Int)} (h:Cv w ok v l):∃ns,TasksN w ok v l ns:=by
 obtain ⟨vs,I,he⟩:=h;refine ⟨(List.range l.length).map fun i=>match vs[i*3]? with | some (Value.string s)=>s | _=>(⟨#[]⟩:ByteArray),by simp,vs,I,fun i x s E D=>?_⟩;obtain ⟨s',u1,u2,h0,h1,h2,i1,i2⟩:=he i x E;rw [zat] at D;obtain ⟨G,-⟩:=za6.1 E;rw [List.getElem?_range G] at D;simp only [Option.map_some,h0] at D;injection D with D;subst D;exact ⟨u1,u2,h0,h1,h2,i1,i2⟩
theorem zL.nets {w:World} {ok:Nat->Prop} {v:Value} {m:MZ} (h:zL w ok v m):∃ns,Bx w ok v m ns:=by
 obtain ⟨f,u,t,rfl,h1,h2,h3⟩:=h;obtain ⟨ns,D⟩:=h3.nets;exact ⟨ns,f,u,t,rfl,h1,h2,D⟩
theorem TasksN.below {w w':World} {ok:Nat->Prop} {v:Value} {l:List (List Int×List Int)} {ns:List ByteArray} (h:TasksN w ok v l ns) (D:Below w.heap.size w w'):TasksN w' ok v l ns:=by
 obtain ⟨E,vs,G,he⟩:=h;refine ⟨E,vs,G.below D,fun i x s J I=>?_⟩;obtain ⟨u1,u2,h0,h1,h2,i1,i2⟩:=he i x s J I;exact ⟨u1,u2,h0,h1,h2,i1.below D,i2.below D⟩
theorem Bx.keepW {w w':World} {ok ok':Nat->Prop} {m:MZ} (h:Bx w ok v m ns) (D:Ao ok w w') (E:∀b,ok b->ok' b):Bx w' ok' v m ns:=by
 obtain ⟨f,u,t,rfl,h1,h2,G,vs,I,he⟩:=h;refine ⟨f,u,t,rfl,(h1.keep D).weaken E,(h2.keep D).weaken E,G,vs,(I.keep D).weaken E,fun i x s M J=>?_⟩;obtain ⟨u1,u2,q0,q1,q2,i1,i2⟩:=he i x s M J;exact ⟨u1,u2,q0,q1,q2,(i1.keep D).weaken E,(i2.keep D).weaken E⟩
theorem Bx.below {w w':World} {ok:Nat->Prop} {m:MZ} (h:Bx w ok v m ns) (D:Below w.heap.size w w'):Bx w' ok v m ns:=h.keepW (Ao.of_below D) (fun _ h=>h)
abbrev NetS:={s:ByteArray // s.size<=1}
end
section
open Go.RowKit
attribute [local go_sem ↓] Go.wp_at_zero Go.wp_at_succ
theorem Tryz.infoPst:(Tryz.prog.info? 198).map (fun i=>(i.zero,i.size,i.bytes))=some (some (.pointer none),1,8):=by kernel_rfl
structure SR (w wr:World) (X Y:Nat->Prop) (g gr cap:Nat) (m:MZ) (s:RS) (pt:List Nat) (k:Nat) (b:Int):Prop where
 rt:Bc wr X Y g gr cap m ⟨s.ch.take k,s.done,s.steps+1⟩ pt
 chg:zu X w wr
 se:srch m s.ch k b=DE m s.ch
def StepPost (w:World) (X Y:Nat->Prop) (g:Nat) (m:MZ) (s:RS) (e:Ending) (w':World):Prop:=
 e=.returned (.tuple #[])/\∃gr' cap' ptrs',Bc w' X Y g gr' cap' m (s.one m) ptrs'/\zu X w w'
theorem no_step {m:MZ} {ch l:List Int} (h:∀n∈l.take i,¬ (b<n/\AA m (ch++[n])=true)) (D:i<l.length) (h1:¬ (b<l[i]/\AA m (ch++[l[i]])=true)):∀n∈l.take (i+1),¬ (b<n/\AA m (ch++[n])=true):=by
 intro n E;rcases (zF D n).1 E with h2 | rfl
 ·exact h n h2
 ·exact h1
theorem aft_of {m:MZ} {ch l:List Int} (E:l=Bn m ch) (D:i<l.length) (G:n=l[i]) (h:∀n∈l.take i,¬ (b<n/\AA m (ch++[n])=true)) (h1:b<n) (h2:AA m (ch++[n])=true):aft m ch b=some n:=by
 subst E G;exact aft_at D h h1 h2
theorem push_ok {w w3 w4:World} {X Y:Nat->Prop} {g gr cap:Nat} {m:MZ} {s:RS} {pt:List Nat} {c:List Int} (G:Fu w4 (fun b=>(okR X Y g gr b/\b<w3.heap.size)\/w3.heap.size<=b) q m c) (I:za w w3) (E:Bc w X Y g gr cap m s pt) (D:∀b,w.heap.size<=b->X b):Fu w4 (okR X Y g gr) q m c:=
 G.weaken fun b hb=>by
  rcases hb with hb | hb
  ·exact hb.1
  ·have h1:g<w.heap.size:=zd E.blk;have h2:gr<w.heap.size:=(E.row.1.lt gr rfl).2;have h3:=I.size;exact .inl ⟨D b (by omega),by omega,by omega⟩
theorem stepX_calls {X Y:Nat->Prop} {g gr cap:Nat} {m:MZ} {s:RS} {ptrs:List Nat} (w:World) (h:Bc w X Y g gr cap m s ptrs) (gd:zZ m) (hl:Lens m) (hc:zw m s.ch) (j6:0<=s.steps) (j7:s.steps<=4000000000000000000)
  (e9:∀b,w.heap.size<=b->X b) (f1:∀b,Y b->b<w.heap.size):
  Calls Tryz.prog 155 #[.pointer (some ⟨g,0,none⟩)] w (StepPost w X Y g m s):=by
 obtain ⟨ch,dn,st⟩:=s;dsimp only at j6 j7 hc;have H:=zh h;have c8:w.cell? ⟨g,2,none⟩=some (.int .i64 st):=h.blk.cell (k:=2) rfl;have hf:=fun k=>h.blk.frozen k
 have GD:=zh gd;have HL:=zh hl;have HC:=zh hc;have e7:=zh e9;have i2:=zh f1;have k9:=hc.len300 gd;clear h gd hl hc e9 f1
 have e6:Hid (SR w (w.setCell ⟨g,2,none⟩ (.int .i64 (st+1))) X Y g gr cap m ⟨ch,dn,st⟩ ptrs ch.length (-1)):=by
  refine ⟨?_,chg_setg w H.out.xg 2 _,srch_top m ch⟩;have h1:=H.out.stepsTo (st+1);dsimp only at h1⊢;rw [FJ];exact h1
 obtain ⟨i0,hi,g4,g5,g6⟩:=info_parts Tryz.infoPst;have IF:=zh hi;have IZ0:=zh g4;have IZ1:=zh g5;have IZ2:=zh g6;clear hi g4 g5 g6
 go_enter Tryz.func155,Tryz.ntmps155
 go_wp2_with fail
 go_step3
 go_wp2_with fail
 go_step3
 go_wp2_with fail
 clear c8 hf
 go_loopg [2] ch.length (fun gk v wr=>∃b pt,v=.int .i64 b/\gk<=ch.length/\Hid (SR w wr X Y g gr cap m ⟨ch,dn,st⟩ pt gk b))
 case atStart=>exact ⟨-1,ptrs,rfl,Fy _,e6⟩
 clear e6
 case round=>
  obtain ⟨b,pt,rfl,hk,hS⟩:=hrel;obtain ⟨wo,rfl⟩:∃wo:World,wo=wr:=⟨_,rfl⟩;have D:=hS.out.rt;obtain ⟨p,hp,b3,i7⟩:=D.row.last;have f8:(ch.take gk).length=gk:=by rw [za3];omega
  have b9:=zh (last_c (w':=wo) D hp (by dsimp only;rw [f8];omega));have a9:=zh b3;dsimp only at a9;clear D hp b3 i7
  go_wp2_with fail
  refine b9.out.mono ?_;rintro e w1 ⟨rfl,b2⟩;have d8:za wo w1:=b2.below _;clear b2
  go_wp2_with fail
  refine (DF _ (a9.out.ext d8) GD.out HL.out (HC.out.take gk)).mono ?_;rintro e w2 ⟨v2,rfl,b0⟩;obtain ⟨A2,c2,rfl,c8⟩:=b0.slice;have j8:za wo w2:=d8.trans b0.ext;have j5:(Bn m (ch.take gk)).length<=400000000000:=Dv HL.out _;have e2:=zh b0;clear b0 d8;obtain ⟨l,c9⟩:=zaI (Bn m (ch.take gk));rw [<-c9] at e2 c8 j5⊢;have c0:=zh c9;clear c9
  go_wp2_with fail
  go_loopg [19] l.length (fun gi v wz=>∃i:Nat,v=.int .i64 i/\i<=l.length/\gi=l.length - i/\Hid (za w2 wz/\∀n∈l.take i,¬ (b<n/\AA m (ch.take gk++[n])=true)))
  case atStart=>exact ⟨0,rfl,FN _,rfl,za.refl _,by simp⟩
  case round=>
   obtain ⟨i,rfl,hi,rfl,hZ⟩:=hrel;have hz:=hZ.out.1;have Q:za wo wr:=j8.trans hz;rcases zah i l.length with a2 | hge
   ·obtain ⟨bl,rfl,_,O⟩:=own_at e2.out.own a2;obtain ⟨n,hn⟩:=zaI (l[i]);rw [<-hn] at O;have q0:=za.rule O
    have d5:Hid (n∈Bn m (ch.take gk)):=by
     show n∈_;rw [<-c0.out,hn];exact Fz _
    have HN:=zh hn;clear O hn;by_cases a3:n<=b
    ·have hd:decide (n<=b)=true:=FB a3;have c6:=zh a3;clear a3
     go_wp2_with fail
     go_roundg (l.length - (i+1))
     case measure=>omega
     case rel=>exact ⟨i+1,by go_num,a2,rfl,hZ.out.1,no_step hZ.out.2 a2 (fun h=>by have:=c6.out;rw [<-HN.out] at h;omega)⟩
    ·have hd:decide (n<=b)=false:=FC a3;have c6:=zh a3;clear a3
     go_wp2_with fail
     refine (with_c _ (a9.out.ext Q) GD.out HL.out (HC.out.take gk) d5.out).mono ?_;rintro e w3 ⟨q,rfl,b4,hq⟩;have HQ:=zh hq;clear hq
     go_wp2_with fail
     refine (open_c w3 HQ.out GD.out HL.out (.snoc (HC.out.take gk) d5.out)).mono ?_;rintro e w4 ⟨rfl,a7⟩;obtain ⟨ob,d6⟩:=zaI (AA m (ch.take gk++[n]));rw [<-d6];have e4:=zh d6;clear d6
     cases ob with
     | false=>
      have j9:za w2 w4:=hz.trans (b4.trans a7);clear b4 a7
      go_wp2_with fail
      go_roundg (l.length - (i+1))
      case measure=>omega
      case rel=>exact ⟨i+1,by go_num,a2,rfl,j9,no_step hZ.out.2 a2 (fun h=>by rw [<-HN.out,<-e4.out] at h;exact absurd h.2 (by simp))⟩
     | true=>
      have a0:za wo w4:=Q.trans (b4.trans a7);have i1:=zh (push_ok (HQ.out.ext a7) Q hS.out.rt (fun b hb=>e7.out b (FA hS.out.chg.size hb)));have D:=hS.out.rt.ext a0;have a1:w4.cell? ⟨g,0,none⟩=some (.slice (some ⟨gr,0,none⟩) pt.length cap):=D.blk.cell (k:=0) rfl;have hf:=fun k=>D.blk.frozen k
      have E:=zh D;clear D;have G:pt.length=gk+1:=by have:=E.out.row.2.1;dsimp only at this;omega
      have e5:=zh G;have l0:pt.length+1<=1000:=by omega
      clear b4 a7 hz Q G
      go_wp2_with (at_builtin;refine wpList_append_own_at _ rfl _ _ 200 rfl 0 198 i0 (.pointer none) 1 8 Tryz.underlying200 IF.out IZ0.out IZ1.out IZ2.out rfl (by decide) (.slice (some ⟨gr,0,none⟩) pt.length cap) pt.length _ rfl (E.out.row.1.alloc _) ⟨w4.heap.size,0,none⟩ 1 1 [ptrV q] rfl rfl (cell_one_new _ _ _) (by simp [ptrV,Value.oneCell']) (by unfold maxLen;omega) (by omega) (FN _) ?_)
      intro v' w5 b6 hg _ g1;have e8:∀b,w4.heap.size<=b->X b:=fun b hb=>e7.out b (FA hS.out.chg.size (FA a0.size hb))
      have f0:∀b,Y b->b<w4.heap.size:=fun b hb=>zam (i2.out b hb) (FA hS.out.chg.size a0.size)
      obtain ⟨gr',cap',rfl,b7,b5⟩:=E.out.push i1.out e8 f0 b6 hg g1;have M:w5.heap[g]?=w4.heap[g]?:=(hg.block g (by have:=zd E.out.blk;simp;omega) (fun e=>E.out.ne (by injection e))).trans (zad _ _ _ (zd E.out.blk));have i4:w5.cell? ⟨g,0,none⟩=some (.slice (some ⟨gr,0,none⟩) pt.length cap):=(zaa M).trans a1;have i9:w5.frozen? ⟨g,0,none⟩=false:=(zaj (a:=⟨g,0,none⟩) M).trans (hf 0);have h7:=zh ((hS.out.chg.ext_r a0).tr b5);have U:=zh b7;clear b6 hg g1 b7 b5 a1 hf M e8 f0
      go_wp2_with fail
      clear i4 i9;generalize w5.setCell ⟨g,0,none⟩ (.slice (some ⟨gr',0,none⟩) (pt.length+1) cap')=w6 at*;have f9:(ch.take gk++[n]).length=pt.length:=by have:=e5.out;simp;omega
      have d7:(pt++[q])[(ch.take gk++[n]).length]?=some q:=by rw [f9];simp
      have b8:Fu w6 (okR X Y g gr') q m (ch.take gk++[n]):=by
       have:=U.out.row.2.2 _ q d7
       rwa [FJ] at this
      refine (last_c (w':=w6) U.out d7 (by show (ch.take gk++[n]).length<=1000;omega)).mono ?_;rintro e w7 ⟨rfl,f5⟩;have J:za w6 w7:=f5.below _;clear f5 f9 d7
      go_wp2_with fail
      refine (EA w7 (b8.ext J) GD.out HL.out (.snoc (HC.out.take gk) d5.out)).mono ?_;rintro e w8 ⟨rfl,f6⟩;have a8:za w6 w8:=J.trans (f6.below _);clear f6 J b8;have V:=U.out.ext a8;have i5:w8.cell? ⟨g,1,none⟩=some (.bool dn):=V.blk.cell (k:=1) rfl;have j1:w8.frozen? ⟨g,1,none⟩=false:=V.blk.frozen 1
      have I:StepPost w X Y g m ⟨ch,dn,st⟩ (.returned (.tuple #[])) (w8.setCell ⟨g,1,none⟩ (.bool (zV m (ch.take gk++[n])))):=by
       refine ⟨rfl,gr',cap',pt++[q],?_,(h7.out.ext_r a8).tr (chg_setg _ U.out.xg 1 _)⟩;have h1:=V.done (zV m (ch.take gk++[n]))
       have h2:DE m ch=some (ch.take gk++[n]):=by
        have h3:=hS.out.se;dsimp only at h3;rw [<-h3];unfold srch;rw [aft_of c0.out a2 HN.out hZ.out.2 (by have:=c6.out;omega) e4.out.symm]
       show Bc _ X Y g gr' cap' m (RS.one m ⟨ch,dn,st⟩) _;unfold RS.one;dsimp only;rw [h2];exact h1
      have a5:=zh I;clear I V
      go_wp2_with fail
      try rw [Exit.noGoto_ret]
      refine za5 (results_none rfl _ _ _) rfl ?_;exact a5.out
   ·have j4:i=l.length:=by omega
    subst j4;have d9:Hid (aft m (ch.take gk) b=none):=aft_none c0.out (by have:=hZ.out.2;rwa [FJ] at this);have D:=hS.out.rt.ext Q;have a1:wr.cell? ⟨g,0,none⟩=some (.slice (some ⟨gr,0,none⟩) pt.length cap):=D.blk.cell (k:=0) rfl;have i3:wr.cell? ⟨g,1,none⟩=some (.bool dn):=D.blk.cell (k:=1) rfl;have hf:=fun k=>D.blk.frozen k
    have G:pt.length=gk+1:=by have:=D.row.2.1;dsimp only at this;omega
    have k7:=Bq D.row.1;have E:=zh D;clear D;have e5:=zh G;have e0:=zh (hS.out.chg.ext_r Q);clear hZ hz
    cases gk with
    | zero=>
     have b2:((pt.length:Int)==1)=true:=by rw [beq_iff_eq];omega
     have I:StepPost w X Y g m ⟨ch,dn,st⟩ (.returned (.tuple #[])) (wr.setCell ⟨g,1,none⟩ (.bool true)):=by
      refine ⟨rfl,gr,cap,pt,?_,e0.out.tr (chg_setg _ E.out.xg 1 _)⟩;have h1:=E.out.done true
      have h2:DE m ch=none:=by
       have h3:=hS.out.se;dsimp only at h3;rw [<-h3];exact srch_zero d9.out
      show Bc _ X Y g gr cap m (RS.one m ⟨ch,dn,st⟩) _;unfold RS.one;dsimp only;rw [h2];exact h1
     have a5:=zh I;clear I G
     go_wp2_with fail
     try rw [Exit.noGoto_ret]
     refine za5 (results_none rfl _ _ _) rfl ?_;exact a5.out
    | succ j=>
     have b2:((pt.length:Int)==1)=false:=by rw [FM];omega
     have b3:=a9.out.ext Q;obtain ⟨us,f,u,t,vc,vp,gu,_,h2⟩:=b3;obtain ⟨_,_,_,_,_,_,r6,_,_⟩:=h2.rules;have f4:=h2.ch;clear h2;obtain ⟨Ac,cc,rfl,i6,g0⟩:=f4;obtain ⟨bc,oc,rfl,_,b1⟩:=Ai g0 (k:=j) (by omega) (by omega);rw [List.getElem_take] at b1;obtain ⟨N,hN⟩:=zaI ((ch.take (j+1)).length);rw [<-hN] at i6 r6;rw [f8] at hN;obtain ⟨cj,a6⟩:=zaI (ch[j]);rw [<-a6] at b1;have h8:=zh a6;have rj:=za.rule b1;have l7:(0:Int)<=(j:Int):=by omega
     have l8:(j:Int)<(N:Int):=by omega
     have l9:IntKind.i64.wrap ((N:Int) - 1)=(j:Int):=by rw [zag];omega
     have l5:IntKind.i64.wrap ((pt.length:Int) - 1)=(N:Int):=by rw [zag];omega
     have k6:wrap64 ((pt.length:Int) - 1)=(N:Int):=by rw [IntWalk.wrap64_in _ (by omega)];omega
     have l2:(0:Int)<=(N:Int):=by omega
     have l3:(N:Int)<=(pt.length:Int):=by omega
     have l4:(N:Int)<=(cap:Int):=by omega
     have m0:=za.refl wr;have e3:=zh hN;clear b1 g0 a6 G hN
     go_wp2_with fail
     go_quiet (fail)
     generalize g3:wr.drewN nq=w7;have J:za wr w7:=by rw [<-g3];exact (za.refl wr).drewN _
     have f3:w7.cell? ⟨g,0,none⟩=some (.slice (some ⟨gr,0,none⟩) pt.length cap):=J.cell a1;have f7:w7.frozen? ⟨g,0,none⟩=false:=(Below.frozen J (p:=⟨g,0,none⟩) (zo a1)).trans (hf 0);clear g3 a1 hf i3
     go_wp2_with fail
     go_still_tail 14,(by kernel_rfl)
     change wpList _ _ _ _ _ w7.drew;have a8:za wr w7.drew:=J.drew;have i5:w7.drew.cell? ⟨g,0,none⟩=some (.slice (some ⟨gr,0,none⟩) pt.length cap):=f3;have j1:w7.drew.frozen? ⟨g,0,none⟩=false:=f7;generalize w7.drew=w8 at*;clear f3 f7 J
     go_wp2_with fail
     go_roundg j
     case measure=>omega
     case rel=>
      refine ⟨cj,pt.take (j+1),rfl,by omega,?_,?_,?_⟩
      ·have h1:=(E.out.ext a8).pop (k:=j) (by show j<=(ch.take (j+1)).length;omega);dsimp only at h1;rw [List.take_take,Nat.min_eq_left (by omega),<-e3.out] at h1;rw [<-e3.out];exact h1
      ·exact (e0.out.ext_r a8).tr (chg_setg _ E.out.xg 0 _)
      ·have h3:=hS.out.se;dsimp only at h3⊢;rw [<-h3,srch_back d9.out,h8.out,Fx,Fw (by omega),zap]
end
end Go.Proofs.YtjomnbdjajjgfaaGreatDoor
