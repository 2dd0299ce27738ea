import Derived.Test.YtfjjdmpndmbfoaaGreatDoorWJn
import Derived.Shelf.Strings.Prefix
import Derived.Deep.RegionHeld
import Derived.Test.YtfjjdmpndmbfoaaGreatDoorRows
set_option linter.unusedVariables false
set_option linter.unusedSimpArgs false
set_option maxRecDepth 100000
set_option maxHeartbeats 16000000
namespace Go.Proofs.YtfjjdmpndmbfoaaGreatDoor
variable {a:Act} {l:Array Bool} {b lim st:Int} {x:JS} {ns:List ByteArray} {ch:List Int} {h id s sg:List UInt8} {m:MZ} {K f i n r:Nat} {ok:Nat->Prop} {oi:Oper} {v:Value} {w:World}
section
open Go.RowKit
theorem BK (h:loadE m ch st=0):Cw m=0/\RInv m (loadS m ch st):=by
 unfold loadE at h
 split at h
 ·rename_i h1;exact absurd h h1
 rename_i h1
 split at h
 ·cases h
 rename_i B
 split at h
 ·rename_i d
  rw [De,DO,Dc] at d;refine ⟨Decidable.not_not.1 h1,Ck.1 d.1,?_,rfl,fun o=>?_⟩
  ·show 0<=st;omega
  ·exact d.2.resolve_left o
 ·cases h
noncomputable def runJ (m:MZ) (b lim:Int):Nat->RS->List UInt8->List UInt8×RS
 | 0,r,_=>([],r)
 | f+1,r,sg=>if r.done=true\/lim<=r.steps - b then ([],r) else
   let r':=RS.run m (min (16 - r.steps % 16) (lim - (r.steps - b))).toNat r
   let p:=runJ m b lim f r' (zB sg r'.ch r'.steps)
   (zL sg r'.ch r'.steps++p.1,p.2)
theorem runJ_stop {r:RS} (h:r.done=true\/lim<=r.steps - b):runJ m b lim f r sg=([],r):=by
 cases f with
 | zero=>rfl
 | succ f=>unfold runJ;rw [if_pos h]
theorem runJ_go {r r':RS} (h:¬ (r.done=true\/lim<=r.steps - b)) (d:RS.run m (min (16 - r.steps % 16) (lim - (r.steps - b))).toNat r=r'):
  runJ m b lim (f+1) r sg=(zL sg r'.ch r'.steps++(runJ m b lim f r' (zB sg r'.ch r'.steps)).1,(runJ m b lim f r' (zB sg r'.ch r'.steps)).2):=by
 subst d
 conv=>lhs;unfold runJ
 rw [if_neg h]
theorem runJ_wrt {m:MZ} {b L:Nat} (E:b<=L):∀(f n:Nat) (x:JS),AtN m x n->n<=L->L<=n+f->
  (runJ m b ((L:Int) - b) f (zC m n) x.sg).1=wrt m (runN m L f n) x/\(runJ m b ((L:Int) - b) f (zC m n) x.sg).2=zC m L
 | 0,n,x,h,h1,D=>by
  obtain rfl:n=L:=by omega
  exact ⟨rfl,rfl⟩
 | f+1,n,x,h,h1,D=>by
  have d:=h.own;by_cases hc:(zC m n).done=true\/L<=n
  ·have o:(zC m n).done=true\/(L:Int) - b<=(zC m n).steps - b:=by rw [d];rcases hc with hc | hc;exact .inl hc;exact .inr (by omega)
   rw [runJ_stop o];unfold runN;rw [if_pos hc];refine ⟨rfl,?_⟩;rcases hc with hc | hc
   ·exact (atS_done hc h1).symm
   ·obtain rfl:n=L:=by omega
    rfl
  ·have o:¬ ((zC m n).done=true\/(L:Int) - b<=(zC m n).steps - b):=by
    rw [d];rintro (q | q)
    ·exact hc (.inl q)
    ·exact hc (.inr (by omega))
   have G:(zC m n).done=false:=by
    cases M:(zC m n).done with
    | false=>rfl
    | true=>exact absurd (.inl M) hc
   have U:n<L:=by
    rcases Do n L with q | q
    ·exact q
    ·exact absurd (.inr q) hc
   have I:0<min (16 - n % 16) (L - n):=by have:=Nat.mod_lt n (show 0<16 by omega);omega
   have B:(min (16 - (zC m n).steps % 16) ((L:Int) - b - ((zC m n).steps - b))).toNat=min (16 - n % 16) (L - n):=by rw [d];omega
   obtain ⟨b1,b2,b3,b4⟩:=next_steps d G I
   have O:RS.run m (min (16 - (zC m n).steps % 16) ((L:Int) - b - ((zC m n).steps - b))).toNat (zC m n)=zC m (n+min (16 - n % 16) (L - n)):=by
    rw [B];exact (Bl m n _ _).symm
   rw [runJ_go o O];unfold runN;rw [if_neg hc];generalize J:(zC m (n+min (16 - n % 16) (L - n))).steps.toNat=n' at b1 b2 b3 b4⊢;rw [<-b4];obtain ⟨i1,i2⟩:=runJ_wrt E f n' (recS m n' x) (atN_rec b3) (by omega) (by omega);refine ⟨?_,i2⟩;show zL x.sg (zC m n').ch (zC m n').steps++_=zL x.sg (zC m n').ch (zC m n').steps++wrt m (runN m L f n') (recS m n' x);rw [<-i1];rfl
noncomputable def zE (m:MZ) (h id s:List UInt8):Option JS:=if h <+: s then some (endJ m s ⟨[],0,h.length,id⟩) else none
noncomputable def runF (m:MZ) (h id s:List UInt8) (n:Int):List UInt8×Bool×Int:=
 match zE m h id s with
 | none=>([],false,4)
 | some x=>if n<0 then ([],false,1) else
   let p:=runJ m x.steps (min (20000 - x.steps) n) (min (20000 - x.steps) n).toNat (loadS m x.ch x.steps) x.sg
   (s.take x.fin++p.1,p.2.done,0)
def JAt (m:MZ) (h id s:List UInt8) (K:Nat):Prop:=∃ns e,Ups m ns 0/\s=h++wrt m ns ⟨[],0,h.length,id⟩/\AtN m (wrtS m ns ⟨[],0,h.length,id⟩) e/\zC m e=zC m K/\e<=K
theorem jat_begin (m:MZ) (h id:List UInt8):JAt m h id h 0:=⟨[],0,trivial,(List.append_nil h).symm,atN_zero m _ _,rfl,CS _⟩
theorem endJ_end (h:s.length<=x.fin):endJ m s x=x:=by
 refine endJ_none ?_
 cases d:zR m s x with
 | none=>rfl
 | some y=>have:=AY d;omega
theorem jat_open (g:Al m) (D:JAt m h id s K):∃x e,zE m h id s=some x/\x.fin=s.length/\AtN m x e/\zC m e=zC m K/\e<=K:=by
 obtain ⟨ns,e,E,rfl,he,B,d⟩:=D;obtain ⟨h1,o⟩:=read_wrt g ns ⟨[],0,h.length,id⟩ h [] E rfl;rw [List.append_nil] at h1;have hf:(wrtS m ns ⟨[],0,h.length,id⟩).fin=(h++wrt m ns ⟨[],0,h.length,id⟩).length:=by rw [o,Da]
 refine ⟨_,e,?_,hf,he,B,d⟩;unfold zE;rw [if_pos (List.prefix_append ..),h1,endJ_end (by rw [hf];exact CS _)]
theorem jat_run (g:Al m) (O:JAt m h id s K) (hn:K+n<=20000):
  ∃t,runF m h id s n=(s++t,(zC m (K+n)).done,0)/\JAt m h id (s++t) (K+n):=by
 obtain ⟨x,e0,D,hf,-,-,-⟩:=jat_open g O;obtain ⟨ns,e,U,J,he,I,a0⟩:=O;obtain ⟨h1,V⟩:=read_wrt g ns ⟨[],0,h.length,id⟩ h [] U rfl;rw [List.append_nil,<-J] at h1
 have o:x=wrtS m ns ⟨[],0,h.length,id⟩:=by
  unfold zE at D;rw [if_pos (by rw [J];exact List.prefix_append ..)] at D;injection D with D;rw [<-D,h1,endJ_end];rw [V,J,Da];exact CS _
 have d:x.steps=e:=by rw [o];exact he.st
 have M:x.ch=(zC m e).ch:=by rw [o];exact he.ch
 have E:e+n<=1000000:=by omega
 obtain ⟨c1,c2,e',c3,c4,c5⟩:=torn_run (h:=h) (id:=id) (lim:=e+n) (f:=n) E U he (by omega) (by omega)
 have hL:loadS m x.ch x.steps=zC m e:=by
  have:=(atS_inv m e).loadS;rw [he.own] at this;rw [M,d,this]
 have G:(min (20000 - x.steps) (n:Int))=((e+n:Nat):Int) - e:=by rw [d];omega
 have B:(min (20000 - x.steps) (n:Int)).toNat=n:=by rw [d];omega
 obtain ⟨d1,d2⟩:=runJ_wrt (m:=m) (b:=e) (L:=e+n) (by omega) n e x (by rw [o];exact he) (by omega) (by omega);refine ⟨wrt m (runN m (e+n) n e) x,?_,ns++runN m (e+n) n e,e',c2,?_,c3,?_,?_⟩
 ·unfold runF;rw [D];simp only;rw [if_neg (by omega),B,G,hL,d,d1,d2,hf,Dd]
  have ea:zC m (e+n)=zC m (K+n):=by
   unfold zC at I⊢;rw [Bl,Bl,I]
  rw [ea]
 ·rw [<-c1,<-J,o]
 ·rw [c4];unfold zC at I⊢;rw [Bl,Bl,I]
 ·have a1:=Ch m (e+n);have a2:(zC m e').steps=e':=c3.own;rw [c4] at a2;omega
theorem jat_read (g:Al m) (D:JAt m h id s K):∃x,zE m h id s=some x/\x.fin=s.length/\x.ch=(zC m K).ch/\x.steps=(zC m K).steps:=by
 obtain ⟨x,e,h1,B,d,o,E⟩:=jat_open g D;refine ⟨x,h1,B,by rw [d.ch,o],?_⟩;rw [d.st,<-o];exact d.own.symm
def bitB (b:Bool):UInt8:=if b=true then 49 else 48
def AN (l:List Bool):List UInt8:=wT (l.map bitB)
def taskB (x:List Int×List Int) (s:ByteArray):List UInt8:=(wT s.data.toList++wL x.1)++wL x.2
def Ai:List (List Int×List Int)->List ByteArray->List UInt8
 | x :: l,s :: ns=>taskB x s++Ai l ns
 | _,_=>[]
def Ae (m:MZ) (ns:List ByteArray):List UInt8:=
 (((wI m.w++wI m.h)++wI m.l)++wI (m.tasks.length:Nat))++(Ai m.tasks ns++(wI (m.free.length:Nat)++(m.free.flatMap AN++AN m.up)))
def BX:List UInt8:=[114,111,117,116,101]
def zv (id:List UInt8):List UInt8:=wT BX++wT id
theorem tasksB_take {l:List (List Int×List Int)} (o:ns.length=l.length):∀(k:Nat) (d:k<l.length),Ai (l.take (k+1)) (ns.take (k+1))=Ai (l.take k) (ns.take k)++taskB l[k] (ns[k]'(by omega)):=by
 induction l generalizing ns with
 | nil=>intro k d;simp at d
 | cons x l ih=>
  cases ns with
  | nil=>simp at o
  | cons s ns=>
   intro k d
   cases k with
   | zero=>simp [Ai]
   | succ k=>
    have:=ih (ns:=ns) (by simpa using o) k (by simpa using d);simp only [List.take_succ_cons,Ai,List.getElem_cons_succ,this,List.append_assoc]
structure Small (m:MZ) (ns:List ByteArray):Prop where
 w:0<=m.w/\m.w<=1000
 h:0<=m.h/\m.h<=1000
 l:0<=m.l/\m.l<=1000
 tl:m.tasks.length<=1000
 nl:ns.length=m.tasks.length
 t:∀x∈m.tasks,x.1.length<=1000/\x.2.length<=1000/\∀n,n∈x.1\/n∈x.2->BO n
 n:∀s∈ns,s.size<=1000
 fl:m.free.length<=1000
 f:∀x∈m.free,x.length<=1000
 u:m.up.length<=1000
theorem BC (h:s.length<=1000000000):(wT s).length<=s.length+22:=by
 have:=itoa_len (n:=(s.length:Int)) ⟨by omega,by omega⟩;unfold wT;simp;omega
theorem taskB_len {x:List Int×List Int} {s:ByteArray} (h1:x.1.length<=1000/\x.2.length<=1000/\∀n,n∈x.1\/n∈x.2->BO n) (o:s.size<=1000):(taskB x s).length<=50000:=by
 have B:s.data.toList.length=s.size:=by rw [Array.length_toList];rfl
 have a:=BC (s:=s.data.toList) (by omega);have b:=wIs_len2 (l:=x.1) fun n d=>h1.2.2 n (.inl d)
 have c:=wIs_len2 (l:=x.2) fun n d=>h1.2.2 n (.inr d)
 unfold taskB;simp only [Da];omega
theorem tasksB_len:∀{l:List (List Int×List Int)} {ns:List ByteArray},(∀x∈l,x.1.length<=1000/\x.2.length<=1000/\∀n,n∈x.1\/n∈x.2->BO n)->(∀s∈ns,s.size<=1000)->(Ai l ns).length<=50000*l.length
 | [],ns,_,_=>by simp [Ai]
 | x :: l,[],_,_=>by simp [Ai]
 | x :: l,s :: ns,h,o=>by
  have h1:=taskB_len (h x (DC ..)) (o s (DC ..));have B:=tasksB_len (l:=l) (ns:=ns) (fun y d=>h y (Dm _ d)) (fun y d=>o y (Dm _ d));simp only [Ai,Da,DR];omega
theorem bitsB_len {l:List Bool} (h:l.length<=1000):(AN l).length<=1100:=by
 unfold AN;have:=BC (s:=l.map bitB) (by rw [DA];omega);rw [DA] at this;omega
theorem bitss_len:∀{l:List (List Bool)},(∀x∈l,x.length<=1000)->(l.flatMap AN).length<=1100*l.length
 | [],_=>by simp
 | x :: l,h=>by
  have h1:=bitsB_len (h x (DC ..));have o:=bitss_len (l:=l) (fun y d=>h y (Dm _ d));simp only [List.flatMap_cons,Da,DR];omega
theorem MadeM.small (h:MadeM m) (B:ns.length=m.tasks.length) (d:∀s∈ns,s.size<=1):Small m ns:=by
 have J:=h.w;have hh:=h.h;have D:=h.l;have E:=h.n;have ht:=h.tk;have I:=h.good.1.up;have hf:=h.good.2;refine ⟨by omega,by omega,by omega,by omega,B,fun x o=>?_,fun s G=>by have:=d s G;omega,by omega,fun f hf=>?_,?_⟩
 ·have h1:=(h.te x o).2;refine ⟨by omega,by omega,fun n d=>?_⟩;have:=h.good.5 x o n d;have e:m.n=m.w*m.h*m.l:=rfl;exact ⟨by omega,by omega⟩
 ·have:=h.good.3 f hf;have e:m.n=m.w*m.h*m.l:=rfl;omega
 ·have e:m.n=m.w*m.h*m.l:=rfl;omega
noncomputable def allJ (m:MZ) (s:List UInt8):Nat->JS->List JS
 | 0,x=>[x]
 | f+1,x=>match zR m s x with
  | none=>[x]
  | some y=>x :: allJ m s f y
theorem allJ_zero (m:MZ) (s:List UInt8) (f:Nat) (x:JS):(allJ m s f x)[0]?=some x:=by
 cases f with
 | zero=>rfl
 | succ f=>
  unfold allJ
  cases zR m s x <;> rfl
theorem allJ_pos (m:MZ) (s:List UInt8) (f:Nat) (x:JS):0<(allJ m s f x).length:=by
 have:=(DJ.1 (allJ_zero m s f x)).1;exact this
theorem allJ_last (m:MZ) (s:List UInt8):∀(f:Nat) (x:JS),(allJ m s f x)[(allJ m s f x).length - 1]?=some (lastJ m s f x)
 | 0,x=>rfl
 | f+1,x=>by
  unfold allJ lastJ
  cases d:zR m s x with
  | none=>rfl
  | some y=>
   have h:=allJ_last m s f y;have hp:=allJ_pos m s f y;show (x :: allJ m s f y)[(allJ m s f y).length+1 - 1]?=_;rw [Nat.add_sub_cancel,show (allJ m s f y).length=(allJ m s f y).length - 1+1 by omega,List.getElem?_cons_succ];exact h
theorem allJ_next {m:MZ} {s:List UInt8}:∀(f:Nat) (x:JS) (k:Nat) (y:JS),s.length<=x.fin+f->(allJ m s f x)[k]?=some y->
  (zR m s y=none->k+1=(allJ m s f x).length)/\∀z,zR m s y=some z->(allJ m s f x)[k+1]?=some z
 | 0,x,k,y,E,h=>by
  have B:k=0/\y=x:=by
   cases k with
   | zero=>exact ⟨rfl,by simpa [allJ] using h.symm⟩
   | succ k=>simp [allJ] at h
  obtain ⟨rfl,rfl⟩:=B;refine ⟨fun _=>rfl,fun z d=>?_⟩;have:=AY d;omega
 | f+1,x,k,y,E,h=>by
  unfold allJ at h⊢
  cases o:zR m s x with
  | none=>
   rw [o] at h
   have B:k=0/\y=x:=by
    cases k with
    | zero=>exact ⟨rfl,by simpa using h.symm⟩
    | succ k=>simp at h
   obtain ⟨rfl,rfl⟩:=B;refine ⟨fun _=>rfl,fun z d=>?_⟩;rw [o] at d;cases d
  | some x'=>
   rw [o] at h;simp only at h⊢;have hf:=AY o
   cases k with
   | zero=>
    have:x=y:=by simpa using h
    subst this;refine ⟨fun h0=>?_,fun z d=>?_⟩
    ·rw [o] at h0;cases h0
    ·rw [o] at d;injection d with d;subst d;rw [List.getElem?_cons_succ];exact allJ_zero m s f x'
   | succ k=>
    rw [List.getElem?_cons_succ] at h;obtain ⟨h1,D⟩:=allJ_next f x' k y (by omega) h;refine ⟨fun h0=>by rw [DR,<-h1 h0],fun z d=>?_⟩;rw [List.getElem?_cons_succ];exact D z d
theorem wIs_ge:∀(l:List Int),l.length<=(l.flatMap wI).length
 | []=>Dg _
 | n :: l=>by
  have:=wIs_ge l;simp only [List.flatMap_cons,Da,DR];have h:1<=(wI n).length:=by unfold wI;simp
  omega
theorem recB_ge (sg:List UInt8) (ch:List Int) (st:Int):ch.length<=(zL sg ch st).length:=by
 have:=wIs_ge ch;unfold zL wT AO wL;simp only [Da,DR];omega
structure JSb (s:List UInt8) (x:JS):Prop where
 fin:x.fin<=s.length
 st:BO x.steps
 sg:x.sg.length=8
 ch:∀n∈x.ch,BO n
 cl:x.ch.length<=s.length
theorem nextJ_b {y:JS} (h:zR m s x=some y):JSb s y/\loadE m y.ch y.steps=0/\x.steps<y.steps:=by
 have hf:=(AY h).2;obtain ⟨ch,st,h1,d,o,B,D,rfl⟩:=nextJ_some h;have E:=o.length_le;have G:=recB_ge x.sg ch st;rw [List.length_drop] at E;exact ⟨⟨hf,D,AJ _ _ _,B,by show ch.length<=_;omega⟩,d,h1⟩
theorem allJ_b {m:MZ} {s:List UInt8}:∀(f:Nat) (x:JS) (k:Nat) (y:JS),JSb s x->loadE m x.ch x.steps=0->(allJ m s f x)[k]?=some y->JSb s y/\loadE m y.ch y.steps=0
 | 0,x,k,y,d,o,h=>by
  cases k with
  | zero=>
   have:x=y:=by simpa [allJ] using h
   exact this ▸ ⟨d,o⟩
  | succ k=>simp [allJ] at h
 | f+1,x,k,y,d,o,h=>by
  unfold allJ at h
  cases B:zR m s x with
  | none=>
   rw [B] at h
   cases k with
   | zero=>
    have:x=y:=by simpa using h
    exact this ▸ ⟨d,o⟩
   | succ k=>simp at h
  | some x'=>
   rw [B] at h
   cases k with
   | zero=>
    have:x=y:=by simpa using h
    exact this ▸ ⟨d,o⟩
   | succ k=>
    obtain ⟨h1,D,-⟩:=nextJ_b B;exact allJ_b f x' k y h1 D (by simpa using h)
end
section
open Go.RowKit Go.Shelf
attribute [local go_sem ↓] Go.wp_at_zero Go.wp_at_succ
theorem numS_bound {c:UInt8} {s:Rd} {n:Int} {b:List UInt8} (h:numS c s=some (n,b)):BO n/\b.length<=s.1.length:=by
 unfold numS numP at h
 split at h
 ·cases h
 ·split at h
  ·cases h
  ·rename_i a b' B
   have D:=(BS B).2
   split at h
   ·rename_i v d
    split at h
    ·injection h with h;injection h with h1 o;subst h1 o;exact ⟨⟨(Lib.atoiAll_bounds d).1,(Lib.atoiAll_bounds d).2⟩,by rw [D];simp;omega⟩
    ·cases h
   ·cases h
theorem textF_len (s:Rd):(BA s).1.length<=s.1.length/\(BA s).2.1.length<=s.1.length:=by
 unfold BA
 cases d:numS 58 s with
 | none=>exact ⟨Dg _,Dg _⟩
 | some p=>
  obtain ⟨n,b⟩:=p;have o:=(numS_bound d).2;simp only
  split
  ·exact ⟨Dg _,Dg _⟩
  ·simp;omega
theorem rText_calls {s:Rd} (w:World) (hv:zn w) (h:RdAt w r s) (hl:s.1.length<=281474976710656):Calls Tryz.prog 87 #[.pointer (some ⟨r,0,none⟩)] w fun e w'=>e=.returned (.string ⟨(BA s).1.toArray⟩)/\zG (·=r) w w'/\RdAt w' r (BA s).2:=by
 have V:=zh (number_calls 58 w hv h hl);have E:Hid (∀o,o=numS 58 s->BA s=match o with | none=>([],([],true)) | some (n,b)=>if n<0\/(b.length:Int)<n then ([],([],true)) else (b.take n.toNat,(b.drop n.toNat,false))):=fun o ho=>by rw [ho];rfl
 have J:Hid (∀n b,numS 58 s=some (n,b)->BO n/\b.length<=s.1.length):=fun n b h=>numS_bound h
 generalize numS 58 s=o at V E J;have E:=zh (E.out o rfl);generalize BA s=i at E⊢;clear hv h
 go_enter Tryz.func87,Tryz.ntmps87
 cases o with
 | none=>
  go_wp2_with fail
  refine V.out.mono ?_;rintro e w1 ⟨hC,-,hn⟩;obtain ⟨rfl,O⟩:=hn rfl;have HR:=zh O;have U:=zh hC;clear hC hn O V
  go_wp2_with fail
  refine (AZ w1 HR.out).mono ?_;rintro e w2 ⟨rfl,d,B⟩;have D:=zh (U.out.tr d);have I:=zh B;clear d B
  go_wp2_with fail
  go_ret;have e:=E.out;subst e;exact ⟨rfl,D.out,I.out⟩
 | some p=>
  obtain ⟨n,b⟩:=p;obtain ⟨M,a9⟩:=J.out n b rfl;have a5:=M.1;have a6:=M.2;clear M J
  go_wp2_with fail
  refine V.out.mono ?_;rintro e w1 ⟨hC,hs,-⟩;obtain ⟨rfl,O⟩:=hs n b rfl;have HR:=zh O;have U:=zh hC;have c0:=O.cell (k:=0) rfl;have hf:∀k,w1.frozen? ⟨r,k,none⟩=false:=fun k=>O.frozen k
  dsimp only at c0;clear hC hs O V;by_cases a2:n<0
  ·have G:Hid (i=([],([],true))):=by (show _=_);rw [E.out];rw [if_pos (.inl a2)]
   clear E
   go_wp2_with fail
   refine (AZ w1 HR.out).mono ?_;rintro e w2 ⟨rfl,d,B⟩;have D:=zh (U.out.tr d);have I:=zh B;clear d B
   go_wp2_with fail
   go_ret;have e:=G.out;subst e;exact ⟨rfl,D.out,I.out⟩
  ·by_cases a3:(b.length:Int)<n
   ·have G:Hid (i=([],([],true))):=by (show _=_);rw [E.out];rw [if_pos (.inr a3)]
    clear E
    go_wp2_with fail
    refine (AZ w1 HR.out).mono ?_;rintro e w2 ⟨rfl,d,B⟩;have D:=zh (U.out.tr d);have I:=zh B;clear d B
    go_wp2_with fail
    go_ret;have e:=G.out;subst e;exact ⟨rfl,D.out,I.out⟩
   ·obtain ⟨k,rfl⟩:∃k:Nat,n=k:=⟨n.toNat,by omega⟩;have G:Hid (i=(b.take k,(b.drop k,false))):=by (show _=_);rw [E.out];rw [if_neg (by omega)];rfl
    have b0:k<=b.length:=by omega
    have e1:ByteArray.extract ⟨b.toArray⟩ 0 k=⟨(b.take k).toArray⟩:=ext_take b k;have e2:ByteArray.extract ⟨b.toArray⟩ k b.length=⟨(b.drop k).toArray⟩:=Ci b k;clear E a3 a2
    go_wp2_with fail
    go_ret;have e:=G.out;subst e;exact ⟨rfl,BH (X:=(·=r)) U.out r 0 _ rfl,HR.out.set (k:=0) _⟩
def sPre_ren:Go.Shelf.Ren:=⟨fun | 99=>53 | 206=>84 | n=>n,fun | 9=>9 | 4=>4 | 3=>3 | n=>n,fun | n=>n⟩
theorem sPre:Go.Proofs.Lays.n99 Tryz.prog sPre_ren:=by
 constructor
 iterate 4 (all_goals first | kernel_rfl | (intro _;kernel_rfl) | exact ⟨_,by decide,by kernel_rfl⟩ | constructor)
theorem pre_calls (s p:List UInt8) (w:World):Calls Tryz.prog 53 #[.string ⟨s.toArray⟩,.string ⟨p.toArray⟩] w fun e w'=>e=.returned (.bool (p.isPrefixOf s))/\w=w':=
 (Any.strings_HasPrefix sPre ⟨s.toArray⟩ ⟨p.toArray⟩ w).mono fun e w' h=>⟨by rw [h.1];rfl,h.2.symm⟩
theorem jBits_calls {l:List Bool} (w:World) (hv:zn w) (hl:AA w ok v l) (a6:l.length<=1000000000):Calls Tryz.prog 51 #[v] w fun e w'=>e=.returned (.string ⟨(AN l).toArray⟩)/\zc w w':=by
 have HL:=zh hl;have HV:=zh hv;obtain ⟨A,c,rfl,hc,hr⟩:=hl;clear hv hr
 go_enter Tryz.func51,Tryz.ntmps51
 go_wp2_with fail
 have G:Hid (CN w.heap.size (Lib.byteCells []) (w.alloc (.cells #[.pointer none,.slice none 0 0] 83))):=CN.new w;have J:Hid (zc w (w.alloc (.cells #[.pointer none,.slice none 0 0] 83))):=(zc.refl w).alloc _;generalize w.alloc _=w1 at G J⊢;go_loopw [8] (fun i wr=>∃k:Nat,k<=l.length/\i=.int .i64 k/\Hid (CN w.heap.size (Lib.byteCells ((l.take k).map bitB)) wr)/\Hid (zc w wr)) (fun i _=>l.length - (intOf i).toNat)
 case atStart=>exact ⟨0,Dg _,rfl,G,J⟩
 clear G J
 case round=>
  obtain ⟨k,hk,rfl,HB,U⟩:=hrel;have E:((l.take k).map bitB).length<=l.length:=by simp;omega
  by_cases M:k<l.length
  ·have hR:=HL.out.below U.out;obtain ⟨A',c',e',-,hr⟩:=hR;injection e' with e1 e2 e3;subst e1;obtain ⟨b,off,rfl,-,o⟩:=Cn hr M M;obtain ⟨x,hx⟩:=DT (l[k]);rw [<-hx] at o;have HS:Hid ((l.take (k+1)).map bitB=(l.take k).map bitB++[bitB x]):=by (show _=_);rw [CZ M,DG,hx];rfl
   have O:Hid ((Lib.byteCells ((l.take k).map bitB)).length+1<=140737488355328):=by (show _<=_);rw [bui_len];omega
   clear hx hr e2 e3 E
   cases x with
   | true=>
    go_wp2_with fail
    refine (Cc 49 HB.out O.out).mono ?_;rintro e w3 ⟨rfl,D,d⟩
    have I:Hid (CN w.heap.size (Lib.byteCells ((l.take (k+1)).map bitB)) w3):=by
     rw [HS.out];have:=D;rw [show Value.int .u8 49=Value.int .u8 (49:UInt8).toNat from rfl,bui_bytes] at this;exact .inr this
    have B:Hid (zc w w3):=Below.trans U.out d;clear D d o
    go_wp2_with fail
    go_roundw
    case rel=>exact ⟨k+1,by omega,by go_num,I,B⟩
    case measure=>simp [intOf];omega
   | false=>
    go_wp2_with fail
    refine (Cc 48 HB.out O.out).mono ?_;rintro e w3 ⟨rfl,D,d⟩
    have I:Hid (CN w.heap.size (Lib.byteCells ((l.take (k+1)).map bitB)) w3):=by
     rw [HS.out];have:=D;rw [show Value.int .u8 48=Value.int .u8 (48:UInt8).toNat from rfl,bui_bytes] at this;exact .inr this
    have B:Hid (zc w w3):=Below.trans U.out d;clear D d o
    go_wp2_with fail
    go_roundw
    case rel=>exact ⟨k+1,by omega,by go_num,I,B⟩
    case measure=>simp [intOf];omega
  ·obtain rfl:k=l.length:=by omega
   rw [Dd] at HB;have HT:Hid (∀W,zc w W->Calls Tryz.prog 48 #[.string ⟨(l.map bitB).toArray⟩] W fun e w'=>e=.returned (.string ⟨(AN l).toArray⟩)/\zc W w'):=fun W hW=>Ba W (HV.out.ext hW) (by rw [DA];omega)
   clear E
   go_wp2_with fail
   refine (Cm HB.out U.out.size).mono ?_;rintro e w3 ⟨rfl,d⟩;have B:Hid (zc w w3):=Below.trans U.out d;clear d
   go_wp2_with fail
   refine (HT.out _ B.out).mono ?_;rintro e w4 ⟨rfl,V⟩;have a2:Hid (zc w w4):=B.out.trans V;clear V
   go_wp2_with fail
   go_ret;exact ⟨rfl,a2.out⟩
theorem Ce (w:World) (E:zn w) (O:id.length<=1000000):Calls Tryz.prog 28 #[.string ⟨id.toArray⟩] w fun e w'=>e=.returned (.string ⟨(zv id).toArray⟩)/\zc w w':=by
 have h1:=BC (s:=BX) (by decide);have G:=BC (s:=id) (by omega);have h0:BX.length=5:=rfl;obtain ⟨x1,d⟩:∃x,x=wT BX:=⟨_,rfl⟩;obtain ⟨x2,o⟩:∃x,x=wT id:=⟨_,rfl⟩;have M:Hid (zv id=x1++x2):=by (show _=_);rw [d,o];rfl
 rw [<-d] at h1;rw [<-o] at G;have I:Hid (Calls Tryz.prog 48 #[.string ⟨#[114,111,117,116,101]⟩] w fun e w'=>e=.returned (.string ⟨x1.toArray⟩)/\zc w w'):=by rw [d];exact Ba (s:=BX) w E (by decide)
 have J:Hid (∀W,zc w W->Calls Tryz.prog 48 #[.string ⟨id.toArray⟩] W fun e w'=>e=.returned (.string ⟨x2.toArray⟩)/\zc W w'):=fun W hW=>by rw [o];exact Ba W (E.ext hW) (by omega)
 have U:∀w,(Op.stringOp .add ⟨x1.toArray⟩ ⟨x2.toArray⟩).run Tryz.prog w=.ok (.string ⟨(x1++x2).toArray⟩) w:=fun w=>AL (by omega)
 clear d o E h0 h1 G O
 go_enter Tryz.func28,Tryz.ntmps28
 go_wp2_with fail
 refine I.out.mono ?_;rintro e w1 ⟨rfl,B⟩
 go_wp2_with fail
 refine (J.out _ B).mono ?_;rintro e w2 ⟨rfl,D⟩
 go_wp2_with fail
 go_ret;exact ⟨ret_str M.out.symm,B.trans D⟩
end
section
open Go
section
variable {P:Program} {ops:Array Oper} {Q:Exit->Act->World->Prop} {md:Region.Mode} {S:World->Prop}
def BD (P:Program) (md:Region.Mode) (ops:Array Oper) (Q:Exit->Act->World->Prop) (S:World->Prop):Nat->Array Bool->Act->World->Prop
 | 0,l,a,w=>Region.ready md ops l=[]/\Q .normal a w
 | n+1,l,a,w=>(Region.ready md ops l=[]->Q .normal a w)/\
  ∀i∈Region.ready md ops l,wpOp P ops Q i (fun a' w'=>((∀k,(l.setIfInBounds i true).getD k true=true)\/S w')/\BD P md ops Q S n (l.setIfInBounds i true) a' w') a w
theorem wpAny_of_last:∀(n:Nat) (l:Array Bool) (a:Act) (w:World),BD P md ops Q S n l a w->wpAny P md ops Q n l a w
 | 0,_,_,_,h=>h
 | n+1,_,_,_,h=>⟨h.1,fun i o=>wpOp_mono (fun a' w' d=>wpAny_of_last n _ a' w' d.2) (h.2 i o)⟩
def waitB (md:Region.Mode) (ops:Array Oper) (l:Array Bool) (i:Nat):Bool:=(List.range ops.size).any fun k=>!(l.getD k true) && (match ops[k]? with | some o=>o.after.any (fun e=>Region.binds md e && e.on==i) | none=>false)
theorem wpAnyL_first {k:Nat} {ok:Oper} (hi:ops[i]?=some oi) (hk:ops[k]?=some ok) (hw:∃e∈ok.after,Region.binds md e=true/\e.on=i)
  (I:∀(j:Nat) (o:Oper) cs b,ops[j]?=some o->o.op≠.select cs b) (hQ:∀c a w,Q (.panic c) (a.put oi.dst v) w->Q (.panic c) a w):
  ∀(n:Nat) (l:Array Bool) (a:Act) (w:World),l.getD k true=false->k≠i->
   (∀j oj,ops[j]?=some oj->j≠i->l.getD j true=false->(∀e∈oj.after,Region.binds md e=true->e.on≠i)->oi.apart ops oj=true)->
   i∈Region.ready md ops l->YieldsIf P ops S oi v a->S w->BD P md ops Q S n (l.setIfInBounds i true) (a.put oi.dst v) w->BD P md ops Q S (n+1) l a w:=by
 intro n
 induction n with
 | zero=>
  intro l a w _ _ _ J hy M H;refine ⟨fun h=>(by rw [h] at J;cases J),fun j hj=>?_⟩;by_cases d:j=i
  ·subst d;exact hy.wpOp hi M ⟨.inr M,H⟩
  ·have h:=ready_mono hj d;rw [H.1] at h;cases h
 | succ n ih=>
  intro l a w a3 a0 B J hy M H;refine ⟨fun h=>(by rw [h] at J;cases J),fun j hj=>?_⟩;by_cases d:j=i
  ·subst d;exact hy.wpOp hi M ⟨.inr M,H⟩
  ·have h1:=H.2 j (ready_mono hj d);obtain ⟨E,oj,D,U⟩:=mem_ready.1 hj
   have G:∀e∈oj.after,Region.binds md e=true->e.on≠i:=fun e he hb q=>by
    have h1:=U e he hb;have h0:=(mem_ready.1 J).1;rw [q] at h1;rcases Do i l.size with h' | h'
    ·simp [h'] at h0 h1;rw [h0] at h1;cases h1
    ·simp [Array.getElem?_eq_none h'] at h1
   have a1:j≠k:=fun q=>by
    subst q;obtain ⟨e,he,hb,ho⟩:=hw;rw [hk] at D;injection D with D;subst D;exact G e he hb ho
   have h2:=wpOp_putIf D (B j oj D d E G) (fun cs b=>I i oi cs b hi) (fun cs b=>I j oj cs b D) hQ hy h1;have a4:(l.setIfInBounds j true).getD k true=false:=by rw [getD_set_ne true a1];exact a3
   refine wpOp_mono (fun a' w' h3=>?_) h2
   have O:S w':=h3.2.1.resolve_left fun q=>by
    have h:=q k;rw [getD_set_ne true a1,getD_set_ne true (Ne.symm a0),a3] at h;cases h
   refine ⟨.inr O,ih (l.setIfInBounds j true) a' w' a4 a0 (fun x ox hx a5 a6 a2=>?_) (ready_mono J (Ne.symm d)) h3.1 O ?_⟩
   ·by_cases V:j=x
    ·subst V;exact B j ox hx a5 E a2
    ·rw [getD_set_ne true V] at a6;exact B x ox hx a5 a6 a2
   ·rw [Array.setIfInBounds_comm _ _ d];exact h3.2.2
theorem ze (O:ops[i]?=some oi) (hs:Region.noSelect ops=true) (hf:Region.free md ops l i=true) (V:(Region.ready md ops l).contains i=true) (M:waitB md ops l i=true)
  (hQ:∀c a w,Q (.panic c) (a.put oi.dst v) w->Q (.panic c) a w) (hy:YieldsIf P ops S oi v a) (hS:S w) (h:BD P md ops Q S n (l.setIfInBounds i true) (a.put oi.dst v) w):BD P md ops Q S (n+1) l a w:=by
 unfold waitB at M;obtain ⟨k,-,U⟩:=DP.1 M;rw [De,Bool.not_eq_true'] at U;obtain ⟨h1,D⟩:=U
 cases E:ops[k]? with
 | none=>rw [E] at D;cases D
 | some ok=>
  rw [E] at D
  have hw:∃e∈ok.after,Region.binds md e=true/\e.on=i:=by
   obtain ⟨x,J,o,h4⟩:=(by simpa using D:∃x,∃h:x<ok.after.size,Region.binds md ok.after[x]=true/\ok.after[x].on=i);exact ⟨_,Array.getElem_mem J,o,h4⟩
  have G:k≠i:=fun q=>by
   subst q;have I:k∈Region.ready md ops l:=by simpa using V
   obtain ⟨h0,oj,d,B⟩:=mem_ready.1 I;rw [E] at d;injection d with d;subst d;obtain ⟨e,he,hb,J⟩:=hw;have o:=B e he hb;rw [J] at o;rcases Do k l.size with h' | h'
   ·simp [h'] at h0 o;rw [h0] at o;cases o
   ·simp [Array.getElem?_eq_none h'] at o
  exact wpAnyL_first O E hw (Region.noSelect_spec hs) hQ n l a w h1 G (Region.free_spec O hf) (by simpa using V) hy hS h
def zi (P:Program) (md:Region.Mode) (ops:Array Oper) (Q:Exit->Act->World->Prop) (S:World->Prop) (n:Nat) (l:Array Bool) (a:Act) (w:World) (rs:List Nat):Prop:=
 ∀i∈rs,wpOp P ops Q i (fun a' w'=>((∀k,(l.setIfInBounds i true).getD k true=true)\/S w')/\BD P md ops Q S n (l.setIfInBounds i true) a' w') a w
theorem zi.nil:zi P md ops Q S n l a w []:=fun _ h=>by cases h
theorem zi.cons {n:Nat} {l:Array Bool} {a:Act} {w:World} {i:Nat} {o:Oper} {rs:List Nat} (D:ops[i]?=some o)
  (h:∀K':Act->World->Prop,Shut (∀a w,S w->(S w->BD P md ops Q S n (l.setIfInBounds i true) a w)->K' a w)->if Region.wanted o (yielded ops a.tmps)=true then Oper.wp P o a w K' Q else K' (a.put o.dst undef) w)
  (E:zi P md ops Q S n l a w rs):zi P md ops Q S n l a w (i :: rs):=fun j hj=>by
 rcases DE.1 hj with rfl | hj
 ·exact wpOp_step D (fun K' B=>h K' (fun a w d hW=>B a w ⟨.inr d,hW d⟩))
 ·exact E j hj
theorem zi.last {o:Oper} (E:ops[i]?=some o) (d:(l.setIfInBounds i true).all (fun b=>b)=true)
  (h:∀K':Act->World->Prop,Shut (∀a w,BD P md ops Q S n (l.setIfInBounds i true) a w->K' a w)->if Region.wanted o (yielded ops a.tmps)=true then Oper.wp P o a w K' Q else K' (a.put o.dst undef) w):zi P md ops Q S n l a w [i]:=fun j D=>by
 obtain rfl:=Dy.1 D;refine wpOp_step E (fun K' B=>h K' (fun a w hW=>B a w ⟨.inl fun k=>?_,hW⟩));rw [Array.all_eq_true] at d;rcases Do k (l.setIfInBounds j true).size with h' | h'
 ·rw [Array.getD_eq_getD_getElem?,Array.getElem?_eq_getElem h'];exact d k h'
 ·rw [Array.getD_eq_getD_getElem?,Array.getElem?_eq_none h'];rfl
theorem zo {rs:List Nat} (o:Region.ready md ops l=rs) (d:rs≠[]) (h:zi P md ops Q S n l a w rs):BD P md ops Q S (n+1) l a w:=
 ⟨fun h0=>absurd (o ▸ h0) d,o ▸ h⟩
theorem AK (d:Region.ready md ops l=[]) (h:Q .normal a w):∀n,BD P md ops Q S n l a w
 | 0=>⟨d,h⟩
 | _+1=>⟨fun _=>h,by rw [d];simp⟩
theorem wp_dark {c:Code} (h:∀Q':Exit->Act->World->Prop,(∀c (a a':Act) w,a.defers=a'.defers->Q' (.panic c) a w->Q' (.panic c) a' w)->Q'=Q->c.wp P Q' a w) (hp:∀c (a a':Act) w,a.defers=a'.defers->Q (.panic c) a w->Q (.panic c) a' w):c.wp P Q a w:=h Q hp rfl
theorem Aj {id:Nat} (hm:P.follows .mixedOrders=true) (d:S w.drew) (h:S w.drew->BD P .any ops Q S ops.size (Array.replicate ops.size false) a w.drew):(Code.region id ops true).wp P Q a w:=
 wp_region_any hm (wpAny_of_last _ _ _ _ (h d))
end
end
section
open Go.RowKit Go.Shelf
attribute [local go_sem ↓] Go.wp_at_zero Go.wp_at_succ
attribute [local go_sem] Oper.semAt_some
theorem chain_l (a b:List UInt8) (w:World) (d:a.length<=1000000000) (o:b.length<=1000000000):Calls Tryz.prog 63 #[.string ⟨a.toArray⟩,.string ⟨b.toArray⟩] w fun e w'=>e=.returned (.string ⟨(Br a b).toArray⟩)/\zc w w':=
 Chain_calls ⟨a.toArray⟩ ⟨b.toArray⟩ w (by simpa [ByteArray.size] using d) (by simpa [ByteArray.size] using o)
theorem of_l (a:List UInt8) (w:World) (d:a.length<=1000000000):Calls Tryz.prog 52 #[.string ⟨a.toArray⟩] w fun e w'=>e=.returned (.string ⟨(Cy a).toArray⟩)/\zc w w':=
 Of_calls ⟨a.toArray⟩ w (by simpa [ByteArray.size] using d)
theorem body_len (h:∀x∈ch,BO x) (d:BO st):(AO ch st).length<=22*ch.length+24/\(wL ch).length<=22*ch.length+2/\(wI st).length<=22:=by
 have h1:=wIs_len h;have o:=wI_len d;unfold AO wL;simp only [Da,DR,DS];omega
abbrev Cd (w:World) (g:Nat) (sg:List UInt8):Prop:=zj w g 9 #[.string ⟨sg.toArray⟩]
theorem blk_ne_var {t:TypeId} {cs:Array Value} (h:zn w) (B:zj w r t cs) (h1:cs.size<=8) (o:∀t p,cs≠#[.iface t p]):∀g,g=r->¬ isVar g:=by
 rintro g rfl ⟨n,E,D⟩
 have f:∀ds,w.var? Tryz.prog n=some ds->ds=cs:=fun ds h=>by
  unfold World.var? at h;rw [D] at h;have d:w.heap[g]?=some (.cells cs t (0,0)):=B;simp only [Option.bind_some,d] at h;injection h with h;exact h.symm
 rcases E with rfl | rfl | rfl
 ·have:=congrArg Array.size (f _ h.tab);simp [Lib.pow10Tab] at this;omega
 ·obtain ⟨tp,p,h⟩:=h.syn;exact o _ _ (f _ h).symm
 ·obtain ⟨tp,p,h⟩:=h.rng;exact o _ _ (f _ h).symm
theorem seal_ne (h:zn w) (d:Cd w r sg):∀g,g=r->¬ isVar g:=
 blk_ne_var h d (by simp) (fun t p e=>by have:=congrArg (fun a:Array Value=>a[0]?) e;simp at this)
theorem jSealer_calls (sg:List UInt8) (w:World):Calls Tryz.prog 33 #[.string ⟨sg.toArray⟩] w fun e w'=>e=.returned (.func (.func 62) #[] #[.pointer (some ⟨w.heap.size,0,none⟩)])/\zc w w'/\Cd w' w.heap.size sg:=by
 go_enter Tryz.func33,Tryz.ntmps33
 go_wp2_with fail
 go_ret;exact ⟨rfl,(zc.refl w).alloc _,zj.new _ _ _ rfl⟩
theorem jSeal_calls {g:Nat} {vc:Value} (w:World) (hv:zn w) (hg:Cd w g sg) (d4:sg.length<=1000) (hc:zk w ok vc ch) (hi:∀x∈ch,BO x) (c8:ch.length<=40000000) (a6:BO st):
  Calls Tryz.prog 62 #[vc,.int .i64 st,.pointer (some ⟨g,0,none⟩)] w fun e w'=>e=.returned (.string ⟨(zL sg ch st).toArray⟩)/\zG (·=g) w w'/\Cd w' g (zB sg ch st)/\zn w':=by
 obtain ⟨c7,b3,b4⟩:=body_len hi a6;obtain ⟨x1,D⟩:∃x,x=wL ch:=⟨_,rfl⟩;obtain ⟨x2,E⟩:∃x,x=wI st:=⟨_,rfl⟩;obtain ⟨bd,d⟩:∃x,x=AO ch st:=⟨_,rfl⟩;have a5:bd=x1++x2:=by rw [d,D,E];rfl
 obtain ⟨s2,o⟩:∃x,x=zB sg ch st:=⟨_,rfl⟩;have J:s2=Br sg bd:=by rw [o,d];rfl
 have b5:s2.length=8:=by rw [o];exact AJ _ _ _
 have a0:=BC (s:=bd) (by rw [d];omega);have a9:=BC (s:=s2) (by omega);obtain ⟨y1,G⟩:∃x,x=wT bd:=⟨_,rfl⟩;obtain ⟨y2,I⟩:∃x,x=wT s2:=⟨_,rfl⟩;have HR:Hid (zL sg ch st=y1++y2):=by (show _=_);rw [G,I,d,o];rfl
 have H1:Hid (∀W,zc w W->Calls Tryz.prog 50 #[vc] W fun e w'=>e=.returned (.string ⟨x1.toArray⟩)/\zc W w'):=fun W hW=>by rw [D];exact BY W (hv.ext hW) (hc.below hW) hi (by omega)
 have H2:Hid (∀W,zc w W->Calls Tryz.prog 49 #[.int .i64 st] W fun e w'=>e=.returned (.string ⟨x2.toArray⟩)/\zc W w'):=fun W hW=>by rw [E];exact Cu W (hv.ext hW) a6
 have HC:Hid (∀W,Calls Tryz.prog 63 #[.string ⟨sg.toArray⟩,.string ⟨(x1++x2).toArray⟩] W fun e w'=>e=.returned (.string ⟨s2.toArray⟩)/\zc W w'):=fun W=>by rw [J,<-a5];exact chain_l sg bd W (by omega) (by rw [d];omega)
 have H3:Hid (∀W,zn W->Calls Tryz.prog 48 #[.string ⟨(x1++x2).toArray⟩] W fun e w'=>e=.returned (.string ⟨y1.toArray⟩)/\zc W w'):=fun W hW=>by rw [G,<-a5];exact Ba W hW (by rw [d];omega)
 have H4:Hid (∀W,zn W->Calls Tryz.prog 48 #[.string ⟨s2.toArray⟩] W fun e w'=>e=.returned (.string ⟨y2.toArray⟩)/\zc W w'):=fun W hW=>by rw [I];exact Ba W hW (by omega)
 rw [<-D] at b3;rw [<-E] at b4;rw [<-G] at a0;rw [<-I] at a9;rw [d] at a0;have a1:∀w,(Op.stringOp .add ⟨x1.toArray⟩ ⟨x2.toArray⟩).run Tryz.prog w=.ok (.string ⟨(x1++x2).toArray⟩) w:=fun w=>AL (by omega)
 have a2:∀w,(Op.stringOp .add ⟨y1.toArray⟩ ⟨y2.toArray⟩).run Tryz.prog w=.ok (.string ⟨(y1++y2).toArray⟩) w:=fun w=>AL (by omega)
 have HG:=zh hg;have HV:=zh hv;have b8:=zh o;obtain ⟨A,c,rfl,-,-⟩:=hc;clear D E a5 d o J b5 a0 a9 G I c7 b3 b4 hi c8 a6 hv hg d4
 go_enter Tryz.func62,Tryz.ntmps62
 go_wp2_with fail
 refine (H1.out _ (zc.refl w)).mono ?_;rintro e w1 ⟨rfl,a3⟩
 go_wp2_with fail
 refine (H2.out _ a3).mono ?_;rintro e w2 ⟨rfl,b0⟩;have a7:Hid (zc w w2):=a3.trans b0;have a8:=zh (HG.out.ext a7.out);have c0:=a8.out.cell (k:=0) rfl;clear a3 b0
 go_wp2_with fail
 refine (HC.out _).mono ?_;rintro e w3 ⟨rfl,a4⟩;have b7:Hid (zc w w3):=a7.out.trans a4;have U:=zh (a8.out.ext a4);have f0:=U.out.frozen 0;have c3:=U.out.cell (k:=0) rfl;clear a4 c0;go_upto_region 3 with fail;have M:Hid (zG (·=g) w (w3.setCell ⟨g,0,none⟩ (.string ⟨s2.toArray⟩))):=BH (X:=(·=g)) (chg_ext b7.out) g 0 _ rfl;have V:Hid (Cd (w3.setCell ⟨g,0,none⟩ (.string ⟨s2.toArray⟩)) g s2):=U.out.set (k:=0) _;have B:Hid (zn (w3.setCell ⟨g,0,none⟩ (.string ⟨s2.toArray⟩))):=Cs HV.out M.out (seal_ne HV.out HG.out);generalize w3.setCell ⟨g,0,none⟩ (.string ⟨s2.toArray⟩)=w4 at M V B⊢;have q0:=zc.rule (V.out.cell (k:=0) rfl);have hx:zc w4 w4:=zc.refl w4;clear f0 c3;refine Di (S:=(fun W=>zc w4 W)) AG (hx.drew) fun zH=>?_;have b1:zc w4 w4.drew:=zH;generalize w4.drew=wd at zH b1⊢;refine zF 0 zH ?_;refine zF 2 zH ?_;simp only [zd,CP];refine AC 1 fun K hK=>?_;go_simp;go_at_call 48;refine (H3.out _ (B.out.ext zH)).mono ?_;rintro e w5 ⟨rfl,b9⟩;go_simp;refine DU hK (zH.trans b9) fun zH=>?_;clear hK K;try simp only [zd,CP]
 refine AC 3 fun K hK=>?_;go_simp;go_at_call 48;refine (H4.out _ (B.out.ext zH)).mono ?_;rintro e w6 ⟨rfl,c6⟩;go_simp;refine DU hK (zH.trans c6) fun zH=>?_;clear hK K;try simp only [zd,CP]
 refine zF 4 zH ?_;refine zF 5 zH ?_;simp only [zd,CP];refine Dv (by kernel_rfl) ?_ _;have O:=zh zH;clear zH b1 hx
 go_wp2_with fail
 go_ret;refine ⟨ret_str HR.out.symm,M.out.tr (chg_ext O.out),?_,B.out.ext O.out⟩;rw [<-b8.out];exact V.out.ext O.out
end
section
open Go.RowKit
def GivesJ {α:Type} (n:Nat) (P:Program) (g:Nat) (lb:Array Value) (encs:α->Array Value) (G:Nat->Nat->Nat->α->World->Prop) (N:Nat) (Z:Nat->Prop) (w:World):Prop:=
 ∀(l:Nat) (J:Nat->Nat->World->Prop) (W:World),zc w W->w.heap.size<=l->l<W.heap.size->(∀gx k A B,W.heap.size<=gx->J gx k A->zG (fun b=>b=gx) A B->J gx k B)->
  (∀gx k x W1,W.heap.size<=gx->k<N->J gx k W1->G W.heap.size gx k x W1->YieldAt Fence.wide (n - 1) P l (encs x) W1 fun e W'=>e=.returned (.bool true)/\J gx (k+1) W'/\zG (fun b=>b=l\/Z b) W1 W')->
  (∀gx,J gx 0 W)->
  CallsIn Fence.wide n P g (#[.func (.yield l) #[] #[]]++lb) W fun e W'=>(∃v,e=.returned v)/\∃gx,W.heap.size<=gx/\J gx N W'
def postJ (k:Nat) (I:Nat->World->Prop) (Z:Nat->Prop) (W:World):Exit->Act->World->Prop
 | .normal,_,W'=>zG Z W W'/\I (k+1) W'
 | _,_,_=>False
theorem chg_putObj {X:Nat->Prop} (w:World) {l:Nat} (o:Obj) (d:X l):zG X w (w.putObj l o):=
 (zG.refl X w).grown (grownBy_putObj' w l o) (fun k e _=>by injection e with e;exact e ▸ d)
theorem wpIn_loopJ {P:Program} {α:Type} {g:Operand} {ps:Array Tmp} {assign body:Code} {Q:Exit->Act->World->Prop}
  {gf:Nat} {lb:Array Value} (hg:a.eval g=.func (.func gf) #[] lb) (eg:∀args w,(callFunc gf args).run P w=.ok (.enter gf args) w)
  {encs:α->Array Value} {G:Nat->Nat->Nat->α->World->Prop} {N:Nat} {w0:World} {Z:Nat->Prop} (hZ:∀b,Z b->b<w.heap.size) (b1:GivesJ (n - 1) P gf lb encs G N Z w0) (a9:zc w0 w) (c0:∀x,(encs x).size=ps.size)
  (I:Nat->Nat->World->Prop) (hI:∀gx k A B,w.heap.size+2<=gx->I gx k A->zG (fun b=>b=gx\/(w.heap.size<=b/\b<=w.heap.size+1)) A B->I gx k B)
  (Ax:Nat->Nat->α->Act->World->Prop) (hAx:∀gx k x a A l,Ax gx k x a A->w.heap.size<l->l<A.heap.size->(∃r,A.heap[l]?=some (.loop r))->∀o,Ax gx k x a (A.putObj l o)) (hI0:∀gx W,zc w W->I gx 0 W)
  (hassign:∀(l gx k:Nat) (x:α) (W:World) (K:Act->World->Prop),w.heap.size+2<=gx->k<N->I gx k W->G (w.heap.size+2) gx k x W->w.heap.size<W.heap.size->(∀a' W',zc W W'->Ax gx k x a' W'->K a' W')->
   assign.wpIn (Fence.wide.inRound l) (n - 1 - 1) P (Exit.then K (fun _ _ _=>False)) { tmps:=(ps.zip (encs x)).foldl (fun t (p,v)=>t.setIfInBounds p v) a.tmps,defers:=[] } W)
  (hbody:∀(l gx k:Nat) (x:α) (a':Act) (W:World),w.heap.size+2<=gx->k<N->I gx k W->Ax gx k x a' W->w.heap.size<W.heap.size->(∃r,W.heap[w.heap.size+1]?=some (.loop r))->body.wpIn (Fence.wide.inRound l) (n - 1 - 1) P (postJ k (I gx) Z W) a' W)
  (hdone:∀(D gx:Nat) (W:World),w.heap.size<=D->D<=w.heap.size->w.heap.size+2<=gx->I gx N W->W.heap[D]?=some (.deferred (some []))->Q .normal { a with defers:={ target:=.collected D,args:=#[] } :: a.defers } W):
  (Code.rangeFunc g ps assign body).wpIn Fence.wide n P Q a w:=by
 refine wpIn_rangeFunc ?_;intro fn hfn;obtain ⟨rec,E⟩:∃rec:LoopState->Option Code->Loop,rec=fun st pe=>{ state:=st,pending:=pe,fn,tmps:=a.tmps,params:=ps,assign,body,defers:=w.heap.size }:=⟨_,rfl⟩
 obtain ⟨W1,O⟩:∃W1,(w.alloc (.deferred (some []))).alloc (.loop (rec .ready none))=W1:=⟨_,rfl⟩;have b2:W1.heap.size=w.heap.size+2:=by rw [<-O];simp
 have b6:W1.heap[w.heap.size+1]?=some (.loop (rec .ready none)):=by
  rw [<-O];have:=World.alloc_heap_new (w.alloc (.deferred (some []))) (.loop (rec .ready none))
  rwa [World.size_alloc] at this
 have b3:W1.heap[w.heap.size]?=some (.deferred (some [])):=by
  rw [<-O];exact (Dk _ _ _ (by simp)).trans (World.alloc_heap_new w _)
 have a8:zc w W1:=by rw [<-O];exact ((zc.refl w).alloc _).alloc _
 refine ⟨w.heap.size+1,[{ target:=.collected w.heap.size,args:=#[] }],W1,{ target:=.fn (.func gf) lb,args:=#[.func (.yield (w.heap.size+1)) #[] #[]] },W1,gf,
  #[.func (.yield (w.heap.size+1)) #[] #[]]++lb,W1,?_,?_,fun _ _=>trivial,?_,fun h=>absurd h (by simp [Fence.wide]),?_⟩
 ·rw [<-O,E];exact run_enterLoop_outer _ _ _ _ _
 ·simp only [resolve,hg];simp [go_sem]
 ·simp [invoke,go_sem,eg]
 ·refine (b1 (w.heap.size+1)
   (fun gx k W=>I gx k W/\W.heap[w.heap.size+1]?=some (.loop (rec .ready none))/\W.heap[w.heap.size]?=some (.deferred (some []))/\w.heap.size+1<W.heap.size)
   W1 (a9.trans a8) (by have:=a9.size;omega) (by omega) ?_ ?_ (fun gx=>⟨hI0 gx _ a8,b6,b3,by omega⟩)).mono ?_
  ·rintro gx k A B d ⟨h1,h2,h3,h4⟩ U;exact ⟨hI _ _ _ _ (by omega) h1 (U.wide fun b hb=>.inl hb),(U.block _ h4 (by omega)).trans h2,(U.block _ (by omega) (by omega)).trans h3,Dt h4 U.size⟩
  ·-- one round
   rintro gx k x W d b0 ⟨hi,hl,hD,J⟩ hG;rw [b2] at hG d;have hy:=run_yield (P:=P) (args:=encs x) hl (by rw [E];exact c0 x);rw [E] at hy;refine ⟨fn,_,assign,body,hy,roundIn_of_wpIn hfn (hassign _ gx k x W _ d b0 hi hG (Nat.lt_trans (Nat.lt_succ_self _) J) (fun a' Wa M b7=>?_))⟩;have hl:=(M.block _ J).trans hl;have hD:=(M.block _ (by omega)).trans hD;have hi:=hI _ _ _ _ d hi (zG.of_ext M);have J:w.heap.size+1<Wa.heap.size:=Dt J M.size;refine ⟨_,run_beginRound hl (by rw [E]),?_⟩;have a5:(Wa.putObj (w.heap.size+1) (.loop { rec .ready none with state:=.busy })).heap[w.heap.size+1]?=some (.loop { rec .ready none with state:=.busy }):=World.putObj_heap_same J;have b4:(Wa.putObj (w.heap.size+1) (.loop { rec .ready none with state:=.busy })).heap[w.heap.size]?=some (.deferred (some [])):=(World.putObj_heap_other (by omega)).trans hD;have a0:w.heap.size+1<(Wa.putObj (w.heap.size+1) (.loop { rec .ready none with state:=.busy })).heap.size:=(DK.1 a5).1;have b8:Wa.grownBy (Wa.putObj (w.heap.size+1) (.loop { rec .ready none with state:=.busy })) (some (w.heap.size+1)):=grownBy_putObj' _ _ _;refine wpIn_mono (hbody _ gx k x a' _ d b0 (hI _ _ _ _ d hi (chg_putObj _ _ (by omega))) (hAx _ _ _ _ _ _ b7 (by omega) J ⟨_,hl⟩ _) (Nat.lt_trans (Nat.lt_succ_self _) a0) ⟨_,a5⟩) ?_;generalize Wa.putObj (w.heap.size+1) (.loop { rec .ready none with state:=.busy })=W2 at*
   have fin:∀(jump:Option Code) (W3:World),W3.heap[w.heap.size+1]?=some (.loop { rec .ready none with state:=.busy })->
     (Instr.endRound (w.heap.size+1) jump).run P W3=.ok (.bool jump.isNone) (W3.putObj (w.heap.size+1) (.loop (rec (if jump.isNone then .ready else .done) jump))):=fun jump W3 V=>by
    have:=run_endRound (P:=P) jump V;rw [E] at this⊢;exact this
   rintro e a3 W3 hp
   cases e with
   | normal=>
    obtain ⟨a2,b9⟩:=hp;have V:=(a2.block _ a0 (fun h=>by have:=hZ _ h;omega)).trans a5;have a1:=(DK.1 V).1;have b5:=(a2.block _ (by omega) (fun h=>by have:=hZ _ h;omega)).trans b4;refine ⟨_,_,fin none W3 V,rfl,⟨hI _ _ _ _ d b9 (chg_putObj _ _ (by omega)),World.putObj_heap_same a1,(World.putObj_heap_other (by omega)).trans b5,?_⟩,?_⟩
    ·exact (DK.1 (World.putObj_heap_same a1)).1
    ·exact (((zG.of_ext (X:=fun b=>b=w.heap.size+1\/Z b) M).grown b8 (fun k e _=>by injection e with e;exact .inl e.symm)).trans a2 (fun k _ h=>.inr h)).grown (grownBy_putObj' _ _ _) (fun k e _=>by injection e with e;exact .inl e.symm)
   | ret=>exact hp.elim
   | exit id=>exact hp.elim
   | goto t=>exact hp.elim
   | panic ch=>exact hp.elim
   | outgrown=>exact hp.elim
  ·-- behind the iterator
   rintro e W2 ⟨⟨v,rfl⟩,gx,d,hi,hl,hD,J⟩;rw [b2] at d;exact ⟨none,_,by have:=run_endLoop (P:=P) hl (by rw [E];simp);rw [E] at this;exact this,hdone _ gx _ (CS _) (CS _) d (hI _ _ _ _ d hi (chg_putObj _ _ (by omega))) ((World.putObj_heap_other (by omega)).trans hD)⟩
end
end Go.Proofs.YtfjjdmpndmbfoaaGreatDoor
