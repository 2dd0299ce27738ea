import Derived.Test.YtfjjdmpndmbfoaaGreatDoorWJi
import Derived.KernelRfl
import Derived.Deep.AppendLies
set_option linter.unusedVariables false
set_option linter.unusedSimpArgs false
set_option maxRecDepth 100000
set_option maxHeartbeats 16000000
namespace Go.Proofs.YtfjjdmpndmbfoaaGreatDoor
variable {n z:Int} {ps:List (List Int)} {S acc ch:List Int} {g:Nat} {X Y ok:Nat->Prop} {s:Rd} {v:Value} {a b w w':World}
section
open Go.RowKit
def AT (m:MZ) (t:Nat) (us acc:List Int) (z:Int):List Int:=if (zp m t z && !decide (z∈us) && !decide (z∈acc))=true then acc++[z] else acc
def growX (m:MZ) (t:Nat) (us S:List Int):List Int:=(S.flatMap (zr m)).foldl (AT m t us) S
def growN (m:MZ) (t:Nat) (us:List Int):Nat->List Int->List Int
 | 0,S=>S
 | k+1,S=>growN m t us k (growX m t us S)
def start (m:MZ) (f:List Int):List Int:=f.foldl (fun acc x=>if (decide (0<=x) && decide (x<m.n) && !decide (x∈acc))=true then acc++[x] else acc) []
def reachX (m:MZ) (t:Nat) (f us:List Int):List Int:=growN m t us (m.n.toNat+1) (start m f)
section
variable {m:MZ} {t:Nat} {us f:List Int}
structure GK (m:MZ) (t:Nat) (f us S:List Int):Prop where
 nd:S.Nodup
 rg:∀x∈S,0<=x/\x<m.n
 rp:∀x∈S,RP m t f us x
theorem addIf_sub (acc:List Int) (z:Int):∀x∈acc,x∈AT m t us acc z:=by
 intro x d;unfold AT
 split
 ·exact List.mem_append_left _ d
 ·exact d
theorem addIf_len (acc:List Int) (z:Int):acc.length<=(AT m t us acc z).length:=by
 unfold AT
 split <;> simp
theorem addIf_gk (h:GK m t f us acc) (h0:0<=z/\z<m.n) (h1:zp m t z=true->z∉us->RP m t f us z):GK m t f us (AT m t us acc z):=by
 unfold AT
 split
 ·rename_i d
  simp only [De,Bool.not_eq_true',Dp] at d;refine ⟨?_,fun x hx=>?_,fun x hx=>?_⟩
  ·rw [List.nodup_append];refine ⟨h.nd,by simp,fun a B b o=>?_⟩;rw [Dy] at o;rintro rfl;subst o;exact d.2 B
  ·rcases DF.1 hx with hx | hx
   ·exact h.rg x hx
   ·rw [Dy] at hx;subst hx;exact h0
  ·rcases DF.1 hx with hx | hx
   ·exact h.rp x hx
   ·rw [Dy] at hx;subst hx;exact h1 d.1.1 d.1.2
 ·exact h
theorem fold_sub:∀(l acc:List Int),∀x∈acc,x∈l.foldl (AT m t us) acc
 | [],acc,x,d=>d
 | z :: l,acc,x,d=>fold_sub l (AT m t us acc z) x (addIf_sub acc z x d)
theorem fold_len:∀(l acc:List Int),acc.length<=(l.foldl (AT m t us) acc).length
 | [],acc=>CS _
 | z :: l,acc=>CU (addIf_len acc z) (fold_len l _)
theorem fold_gk:∀(l acc:List Int),GK m t f us acc->(∀z∈l,(0<=z/\z<m.n)/\(zp m t z=true->z∉us->RP m t f us z))->GK m t f us (l.foldl (AT m t us) acc)
 | [],acc,h,_=>h
 | z :: l,acc,h,d=>fold_gk l _ (addIf_gk h (d z (DC ..)).1 (d z (DC ..)).2) (fun x o=>d x (Dm _ o))
theorem grow_gk (d:Dim m) (h:GK m t f us S):GK m t f us (growX m t us S):=by
 refine fold_gk _ _ h fun z G=>?_
 obtain ⟨y,D,B⟩:=List.mem_flatMap.1 G;have o:=h.rg y D;exact ⟨By d o.1 o.2 B,fun h1 E=>(h.rp y D).step B h1 E⟩
def Closed (m:MZ) (t:Nat) (us S:List Int):Prop:=∀y∈S,∀z∈zr m y,zp m t z=true->z∉us->z∈S
theorem addIf_eq (h:zp m t z=true->z∉us->z∈acc):AT m t us acc z=acc:=by
 unfold AT;rw [if_neg];intro d;simp only [De,Bool.not_eq_true',Dp] at d;exact d.2 (h d.1.1 d.1.2)
theorem fold_eq:∀(l acc:List Int),(∀z∈l,zp m t z=true->z∉us->z∈acc)->l.foldl (AT m t us) acc=acc
 | [],acc,_=>rfl
 | z :: l,acc,h=>by
  rw [List.foldl_cons,addIf_eq (h z (DC ..))];exact fold_eq l acc (fun x d=>h x (Dm _ d))
theorem grow_closed (h:Closed m t us S):growX m t us S=S:=
 fold_eq _ _ fun z B=>by
  obtain ⟨y,o,d⟩:=List.mem_flatMap.1 B;exact h y o z d
theorem fold_more:∀(l acc:List Int),(∃z∈l,zp m t z=true/\z∉us/\z∉acc)->acc.length<(l.foldl (AT m t us) acc).length
 | z :: l,acc,⟨x,hx,h1,o,B⟩=>by
  rw [List.foldl_cons];rcases DE.1 hx with rfl | hx
  ·have:(AT m t us acc x).length=acc.length+1:=by
    unfold AT;rw [if_pos (by simp [h1,o,B])];simp
   have:=fold_len (m:=m) (t:=t) (us:=us) l (AT m t us acc x);omega
  ·by_cases d:x∈AT m t us acc z
   ·have D:acc.length<(AT m t us acc z).length:=by
     unfold AT at d⊢
     split
     ·simp
     ·rename_i E;rw [if_neg E] at d;exact absurd d B
    exact Dt D (fold_len l _)
   ·exact Nat.lt_of_le_of_lt (addIf_len acc z) (fold_more l _ ⟨x,hx,h1,o,d⟩)
theorem growN_gk (d:Dim m):∀(k:Nat) {S:List Int},GK m t f us S->GK m t f us (growN m t us k S)
 | 0,S,h=>h
 | k+1,S,h=>growN_gk d k (grow_gk d h)
theorem growN_sub:∀(k:Nat) (S:List Int),∀x∈S,x∈growN m t us k S
 | 0,S,x,d=>d
 | k+1,S,x,d=>growN_sub k _ x (fold_sub _ _ x d)
theorem growN_closed {S:List Int} (h:Closed m t us S):∀k,growN m t us k S=S
 | 0=>rfl
 | k+1=>by unfold growN;rw [grow_closed h];exact growN_closed h k
theorem growN_or:∀(k:Nat) (S:List Int),Closed m t us (growN m t us k S)\/S.length+k<=(growN m t us k S).length
 | 0,S=>.inr (CS _)
 | k+1,S=>by
  by_cases h:Closed m t us S
  ·left
   rw [growN_closed h];exact h
  ·have h1:S.length<(growX m t us S).length:=by
    refine fold_more _ _ ?_;unfold Closed at h;simp only [Classical.not_forall] at h;obtain ⟨y,o,z,B,h1,h2,d⟩:=h;exact ⟨z,List.mem_flatMap.2 ⟨y,o,B⟩,h1,h2,d⟩
   rcases growN_or k (growX m t us S) with h2 | h2
   ·exact .inl h2
   ·right
    unfold growN;omega
theorem start_gk (m:MZ) (t:Nat) (us f:List Int):GK m t f us (start m f)/\∀x∈f,0<=x->x<m.n->x∈start m f:=by
 have key:∀(l acc:List Int),(∀x∈l,x∈f)->GK m t f us acc->GK m t f us (l.foldl (fun acc x=>if (decide (0<=x) && decide (x<m.n) && !decide (x∈acc))=true then acc++[x] else acc) acc)/\
   (∀x∈acc,x∈l.foldl (fun acc x=>if (decide (0<=x) && decide (x<m.n) && !decide (x∈acc))=true then acc++[x] else acc) acc)/\∀x∈l,0<=x->x<m.n->x∈l.foldl (fun acc x=>if (decide (0<=x) && decide (x<m.n) && !decide (x∈acc))=true then acc++[x] else acc) acc:=by
  intro l
  induction l with
  | nil=>intro acc _ h;exact ⟨h,fun x hx=>hx,fun x hx=>by cases hx⟩
  | cons z l ih=>
   intro acc D h;rw [List.foldl_cons];by_cases d:(decide (0<=z) && decide (z<m.n) && !decide (z∈acc))=true
   ·rw [if_pos d];simp only [De,Bool.not_eq_true',Dp,Dc] at d
    obtain ⟨h1,o,B⟩:=ih (acc++[z]) (fun x hx=>D x (Dm _ hx)) ⟨by
     rw [List.nodup_append];refine ⟨h.nd,by simp,fun a G b E=>?_⟩;rw [Dy] at E;rintro rfl;subst E;exact d.2 G,fun x hx=>by
     rcases DF.1 hx with hx | hx
     ·exact h.rg x hx
     ·rw [Dy] at hx;subst hx;exact d.1,fun x hx=>by
     rcases DF.1 hx with hx | hx
     ·exact h.rp x hx
     ·rw [Dy] at hx;subst hx;exact RP.base (D x (DC ..)) d.1.1 d.1.2⟩
    refine ⟨h1,fun x hx=>o x (List.mem_append_left _ hx),fun x hx a b=>?_⟩;rcases DE.1 hx with rfl | hx
    ·exact o x (by simp)
    ·exact B x hx a b
   ·rw [if_neg d];obtain ⟨h1,o,B⟩:=ih acc (fun x hx=>D x (Dm _ hx)) h;refine ⟨h1,o,fun x hx a b=>?_⟩;rcases DE.1 hx with rfl | hx
    ·refine o x ?_;simp only [De,Bool.not_eq_true',Dp,Dc] at d;by_cases hm:x∈acc
     ·exact hm
     ·exact absurd ⟨⟨a,b⟩,hm⟩ d
    ·exact B x hx a b
 have h:=key f [] (fun _ h=>h) ⟨List.nodup_nil,fun x hx=>absurd hx DL,fun x hx=>absurd hx DL⟩;exact ⟨h.1,h.2.2⟩
theorem mem_reachX (d:Dim m) (x:Int):x∈reachX m t f us↔RP m t f us x:=by
 have D:=start_gk m t us f;have o:=growN_gk (t:=t) (f:=f) (us:=us) d (m.n.toNat+1) D.1
 have G:Closed m t us (reachX m t f us):=by
  rcases growN_or (m:=m) (t:=t) (us:=us) (m.n.toNat+1) (start m f) with h | h
  ·exact h
  ·have:=BN o.nd m.n o.rg;omega
 constructor
 ·exact fun h=>o.rp x h
 ·intro h;exact h (fun x=>x∈reachX m t f us) (fun y B h0 h1=>growN_sub _ _ y (D.2 y B h0 h1)) (fun y z B I h1 E=>G y B z I h1 E)
end
def openTX (m:MZ) (ps:List (List Int)) (us:List Int) (t:Nat):Bool:=((m.tasks.getD t ([],[])).2).any fun x=>decide (x∈reachX m t (AB m ps us t) us)
def openX (m:MZ) (ch:List Int):Bool:=(List.range (tasksN m (AU m ch))).all fun k=>openTX m (AU m ch) ch ((AU m ch).length - 1+k)
theorem openC_x {m:MZ} (d:Dim m) (ch:List Int):AH m ch=openX m ch:=by
 unfold AH openX openB;congr 1;funext k;unfold openT openTX;congr 1;funext x;rw [decide_eq_decide,mem_reachL d,mem_reachX d]
def aftX (m:MZ) (ch:List Int) (last:Int):Option Int:=(Bb m ch).find? fun n=>decide (last<n) && openX m (ch++[n])
theorem aft_x {m:MZ} (d:Dim m) (ch:List Int) (last:Int):aft m ch last=aftX m ch last:=by
 unfold aft aftX;congr 1;funext n;rw [openC_x d]
def backX (m:MZ) (ch:List Int):Nat->Option (List Int)
 | 0=>none
 | k+1=>match aftX m (ch.take k) (ch.getD k 0) with
  | some n=>some (ch.take k++[n])
  | none=>backX m ch k
theorem back_x {m:MZ} (d:Dim m) (ch:List Int):∀k,backN m ch k=backX m ch k
 | 0=>rfl
 | k+1=>by
  unfold backN backX;rw [aft_x d,back_x d ch k]
  all_goals rfl
def stepX (m:MZ) (ch:List Int):Option (List Int):=
 match aftX m ch (-1) with
 | some n=>some (ch++[n])
 | none=>backX m ch ch.length
theorem step_x {m:MZ} (d:Dim m) (ch:List Int):stepC m ch=stepX m ch:=by
 unfold stepC stepX;rw [aft_x d,back_x d]
 all_goals rfl
def RS.oneX (m:MZ) (s:RS):RS:=match stepX m s.ch with
 | some c=>⟨c,Bc m c,s.steps+1⟩
 | none=>⟨[],true,s.steps+1⟩
def RS.runX (m:MZ):Nat->RS->RS
 | 0,s=>s
 | n+1,s=>if s.done=true then s else RS.runX m n (s.oneX m)
theorem run_x {m:MZ} (d:Dim m):∀(n:Nat) (s:RS),RS.run m n s=RS.runX m n s
 | 0,s=>rfl
 | n+1,s=>by
  unfold RS.run RS.runX;rw [run_x d n];unfold RS.one RS.oneX;rw [step_x d]
  all_goals rfl
theorem good_chk {m:MZ} (g:Al m):Cw m=0:=by
 have d:=g.dim
 have D:[m.w,m.h,m.l].any side=false:=by
  have h1:=d.w1;have o:=d.w2;have E:=d.h1;have G:=d.h2;have I:=d.l1;have J:=d.l2;simp [side];omega
 unfold Cw;rw [D,if_neg (by simp),if_neg (by have:=d.n1;have:=g.tk;unfold MZ.n;omega),if_neg,if_neg]
 ·intro h;obtain ⟨t,ht,h1⟩:=DP.1 h;rw [DO] at h1;rcases h1 with h1 | h1
  ·obtain ⟨x,B,o⟩:=DP.1 h1;have:=g.tn t ht x (.inl B);simp [zU] at o;omega
  ·obtain ⟨x,B,o⟩:=DP.1 h1;have:=g.tn t ht x (.inr B);simp [zU] at o;omega
 ·intro h;rcases h with h | h | h
  ·exact h g.fl
  ·exact h d.up
  ·obtain ⟨f,hf,o⟩:=DP.1 h;have:=g.fn f hf;simp at o;exact o this
end
section
open Go.RowKit
attribute [local go_sem ↓] Go.wp_at_zero Go.wp_at_succ
def isChB (m:MZ) (ch:List Int):Bool:=(List.range ch.length).all fun k=>decide (ch.getD k 0∈Bb m (ch.take k))
theorem isCh_of {m:MZ} {ch:List Int} (h:∀k,k<ch.length->ch.getD k 0∈Bb m (ch.take k)):∀k,k<=ch.length->zQ m (ch.take k)
 | 0,_=>by simpa using zQ.nil
 | k+1,d=>by
  rw [CZ (by omega)];have h1:=h k (by omega);rw [CR,CQ (by omega),Dw] at h1;exact .snoc (isCh_of h k (by omega)) h1
theorem Ck {m:MZ}:isChB m ch=true↔zQ m ch:=by
 unfold isChB;rw [DQ];constructor
 ·intro h;have:=isCh_of (m:=m) (ch:=ch) (fun k d=>of_decide_eq_true (h k (DN.2 d))) ch.length (CS _)
  rwa [Dd] at this
 ·intro h k d;have d:=DN.1 d;rw [Dc,CR,CQ d,Dw];exact h.at d
noncomputable def loadE (m:MZ) (ch:List Int) (st:Int):Int:=
 if Cw m≠0 then Cw m else if st<0 then 1 else if (isChB m ch && (decide (ch=[]) || AH m ch))=true then 0 else 51
def loadS (m:MZ) (ch:List Int) (st:Int):RS:=⟨ch,Bc m ch || (decide (ch=[]) && decide (0<st)),st⟩
theorem zS.new {wb:World} {X Y ok:Nat->Prop} {p:Nat} {m:MZ} {st:Int} (o:StC wb ok p m []) (d:∀b,ok b->b<wb.heap.size->X b\/Y b) (B:∀b,wb.heap.size<=b->X b) (D:∀b,Y b->b<wb.heap.size):
  zS ((wb.alloc (.cells #[ptrV p] 107)).alloc (.cells #[.slice (some ⟨wb.heap.size,0,none⟩) 1 1,.bool false,.int .i64 st] 101)) X Y (wb.heap.size+1) wb.heap.size 1 m ⟨[],false,st⟩ [p]:=by
 have G:zc wb ((wb.alloc (.cells #[ptrV p] 107)).alloc (.cells #[.slice (some ⟨wb.heap.size,0,none⟩) 1 1,.bool false,.int .i64 st] 101)):=((zc.refl _).alloc _).alloc _;refine ⟨zj.new _ _ _ (by simp),B _ (by omega),B _ (by omega),by omega,fun h=>by have:=D _ h;omega,fun h=>by have:=D _ h;omega,?_,rfl,?_⟩
 ·exact ⟨rfl,.inr ⟨wb.heap.size,1,#[ptrV p],rfl,Dg _,(zj.new wb _ _ rfl).alloc _,CS _,by unfold maxLen;omega,rfl,rfl⟩⟩
 ·intro k p' hp
  match k,hp with
  | 0,hp=>
   have:p=p':=by simpa using hp
   subst this;refine (o.bound.ext G).weaken fun b E=>?_
   rcases d b E.1 E.2 with h | h
   ·exact .inl ⟨h,by omega,by omega⟩
   ·exact .inr h
def AS (w:World) (Y:Nat->Prop) (m:MZ) (ch:List Int) (st:Int) (e:Ending) (w':World):Prop:=
 ∃v,e=.returned (.tuple #[v,.int .i64 (loadE m ch st)])/\zc w w'/\
  ((loadE m ch st≠0/\v=.pointer none)\/(loadE m ch st=0/\Al m/\zQ m ch/\∃g gr cap pt,v=ptrV g/\zS w' (fun b=>w.heap.size<=b) Y g gr cap m (loadS m ch st) pt))
structure LR (w wr:World) (Y:Nat->Prop) (g gr cap:Nat) (m:MZ) (ch:List Int) (st:Int) (k:Nat) (pt:List Nat):Prop where
 rt:zS wr (fun b=>w.heap.size<=b) Y g gr cap m ⟨ch.take k,false,st⟩ pt
 ext:zc w wr
 ch:zQ m (ch.take k)
theorem load_fin {w9:World} {gr cap:Nat} {m:MZ} {st:Int} {pt:List Nat} {d:Bool} {c:List Int} (h:zS w9 (fun b=>w.heap.size<=b) Y g gr cap m ⟨c,false,st⟩ pt) (D:zc w w9) (E:c=ch) (B:zQ m ch) (I:Al m) (o:loadE m ch st=0) (G:d=(loadS m ch st).done):
  AS w Y m ch st (.returned (.tuple #[.pointer (some ⟨g,0,none⟩),.int .i64 0])) (w9.setCell ⟨g,1,none⟩ (.bool d)):=by
 subst E;refine ⟨.pointer (some ⟨g,0,none⟩),by rw [o],D.setCell (p:=⟨g,1,none⟩) h.xg _,.inr ⟨o,I,B,g,gr,cap,pt,rfl,?_⟩⟩;have:=h.done d;rw [G] at this⊢;exact this
theorem load_calls {okc:Nat->Prop} {vc:Value} {m:MZ} (st:Int) (w:World) (hm:zV w Y v m) (hl:Lens m) (h8:zk w okc vc ch) (l5:ch.length<=20000000000000) (h7:∀b,Y b->b<w.heap.size):
  Calls Tryz.prog 31 #[v,vc,.int .i64 st] w (AS w Y m ch st):=by
 have i2:=hm;obtain ⟨vfr,vup,vts,rfl,_,_,j9⟩:=hm;have h5:=zh i2;clear i2 j9;have k4:=zh h8;obtain ⟨Ac,cc,rfl,l4,i4⟩:=h8;have i9:=zh i4;clear i4;have HL:=zh hl;clear hl;have e0:=zh h7;clear h7;obtain ⟨MV,j2⟩:=DT (Value.agg #[.int .i64 m.w,.int .i64 m.h,.int .i64 m.l,vfr,vup,vts]);obtain ⟨ck,h9⟩:=DT (Cw m);have d6:=zh h9;clear h9;obtain ⟨i0,hi,i7,f5,e9⟩:=info_parts Tryz.infoPst;have IF:=zh hi;have IZ0:=zh i7;have IZ1:=zh f5;have IZ2:=zh e9;clear hi i7 f5 e9 j2
 go_enter Tryz.func31,Tryz.ntmps31
 go_wp2_with fail
 generalize h2:w.alloc (.cells #[.int .i64 m.w,.int .i64 m.h,.int .i64 m.l,vfr,vup,vts] 29)=w1;have g3:zc w w1:=by rw [<-h2];exact (zc.refl w).alloc _
 have i1:zj w1 w.heap.size 29 #[.int .i64 m.w,.int .i64 m.h,.int .i64 m.l,vfr,vup,vts]:=by rw [<-h2];exact DD _ _
 clear h2;obtain ⟨m0,m1,m2,m3,m4,m5⟩:=zu i1;have c0:=zc.rule m0;have c1:=zc.rule m1;have c2:=zc.rule m2;have c3:=zc.rule m3;have c4:=zc.rule m4;have c5:=zc.rule m5;clear m0 m1 m2 m3 m4 m5 i1;refine (CA w1 (h5.out.below g3) HL.out).mono ?_;rintro e w2 ⟨rfl,f4⟩;have f4:zc w1 w2:=f4;have c9:zc w w2:=g3.trans f4;rw [<-d6.out];by_cases h0:ck=0
 case neg=>
  have l6:(ck==0)=false:=by rw [Df];exact h0
  have l7:(ck != 0)=true:=by rw [bne_iff_ne];exact h0
  have a0:loadE m ch st=ck:=by unfold loadE;rw [<-d6.out,if_pos h0]
  have Q:AS w Y m ch st (.returned (.tuple #[.pointer none,.int .i64 ck])) w2:=⟨.pointer none,by rw [a0],c9,.inl ⟨by rw [a0];exact h0,rfl⟩⟩;have I:=zh Q;clear Q a0 h0
  go_wp2_with fail
  go_ret2
  exact I.out
 case pos=>
  subst h0;have HG:=zh (Al.of d6.out.symm);by_cases f3:st<0
  ·have a0:loadE m ch st=1:=by unfold loadE;rw [<-d6.out,if_neg (by simp),if_pos f3]
   have Q:AS w Y m ch st (.returned (.tuple #[.pointer none,.int .i64 1])) w2:=⟨.pointer none,by rw [a0],c9,.inl ⟨by rw [a0];decide,rfl⟩⟩;have I:=zh Q;clear Q a0
   go_wp2_with fail
   go_ret2
   exact I.out
  ·have l0:0<=st:=by omega
   have l8:decide (st<0)=false:=CW f3
   have d8:Hid (loadE m ch st=if (isChB m ch && (decide (ch=[]) || AH m ch))=true then 0 else 51):=by
    show loadE m ch st=_;unfold loadE;rw [<-d6.out,if_neg (by simp),if_neg f3]
   clear f3
   go_wp2_with fail
   refine (begin_c w2 (h5.out.below c9) (by have:=HG.out.tk;omega)).mono ?_;rintro e w3 ⟨p,rfl,i6,f8⟩;have g0:zc w w3:=c9.trans i6
   have H0:Hid (LR w ((w3.alloc (.cells #[ptrV p] 107)).alloc (.cells #[.slice (some ⟨w3.heap.size,0,none⟩) 1 1,.bool false,.int .i64 st] 101)) Y (w3.heap.size+1) w3.heap.size 1 m ch st 0 [p]):=by
    have hz:=g0.size;have e9:=c9.size;refine ⟨?_,(g0.alloc _).alloc _,by simpa using zQ.nil⟩
    have:=zS.new (X:=fun b=>w.heap.size<=b) (Y:=Y) (st:=st) f8 (fun b hb _=>by
     rcases hb with hb | hb
     ·exact .inr hb
     ·exact .inl (by omega)) (fun b hb=>by omega) (fun b hb=>by have:=e0.out b hb;omega)
    simpa using this
   clear f8
   go_wp2_with fail
   generalize i5:(w3.alloc (.cells #[.pointer (some ⟨p,0,none⟩)] 107)).alloc (.cells #[.slice (some ⟨w3.heap.size,0,none⟩) 1 1,.bool false,.int .i64 st] 101)=w4;have H0:Hid (LR w w4 Y (w3.heap.size+1) w3.heap.size 1 m ch st 0 [p]):=by rw [<-i5];exact H0
   clear i5;generalize w3.heap.size+1=g at*;generalize w3.heap.size=gr0 at*;clear c0 c1 c2 c3 c4 c5 i6 g0 c9 f4 g3
   go_loopg [27] ch.length (fun gk v wr=>∃(k gr cap:Nat) (pt:List Nat),v=.int .i64 k/\k<=ch.length/\gk=ch.length - k/\Hid (LR w wr Y g gr cap m ch st k pt))
   case atStart=>exact ⟨0,gr0,1,[p],rfl,Dg _,rfl,H0⟩
   clear H0
   case round=>
    obtain ⟨k,gr,cap,pt,rfl,hk,rfl,hR⟩:=hrel;have G:=hR.out.ext;have d5:=hR.out.rt;obtain ⟨p2,g8,e7,_⟩:=d5.row.last;dsimp only at g8 e7;have j6:(ch.take k).length=k:=by rw [DH];omega
    have g6:=hR.out.ch.len300 HG.out;rw [j6] at g6;have c8:Hid (∀W,zc wr W->Calls Tryz.prog 40 #[.pointer (some ⟨g,0,none⟩)] W fun e w'=>e=.returned (.pointer (some ⟨p2,0,none⟩))/\zw W w'):=fun W hE=>last_c (w':=W) (d5.ext hE) g8 (by dsimp only;omega)
    have a5:=zh e7;have rg0:∀W,zc wr W->W.cell? ⟨g,0,none⟩=some (.slice (some ⟨gr,0,none⟩) pt.length cap):=zc.rule (d5.blk.cell (k:=0) rfl);have k6:=Bm d5.row.1;have k9:pt.length<=400:=by have:=d5.row.2.1;dsimp only at this;omega
    clear d5 g8 e7;rcases Do k ch.length with a8 | hge
    ·obtain ⟨bc,oc,rfl,_,b5⟩:=Bk i9.out a8 a8;obtain ⟨n,hn⟩:=DT (ch[k]);rw [<-hn] at b5;have q0:=zc.rule b5;have HN:=zh hn;clear b5 hn
     go_wp2_with fail
     refine (c8.out wr (zc.refl _)).mono ?_;rintro e w5 ⟨rfl,e4⟩;have b8:zc wr w5:=e4.below _;clear e4
     go_wp2_with fail
     refine (candidates_c w5 (a5.out.ext b8) HG.out HL.out hR.out.ch).mono ?_;rintro e w6 ⟨v6,rfl,hM⟩;have a9:zc wr w6:=b8.trans hM.ext;have HM:=zh hM.ints;clear hM b8
     go_wp2_with fail
     refine (BR n w6 HM.out (by have:=cand_len HL.out (ch.take k);omega)).mono ?_;rintro e w7 ⟨rfl,rfl⟩;by_cases d4:n∈Bb m (ch.take k)
     ·rw [CV d4];have b2:=zh d4;clear d4;have a7:Hid (ch.take k++[n]=ch.take (k+1)):=by show _=_;rw [CZ a8,HN.out]
      go_wp2_with fail
      refine Di (S:=fun _=>True) AG trivial fun zH=>?_;have e3:zc wr w6.drew:=a9.drew;refine zF 0 zH ?_;refine zF 1 zH ?_;simp only [zd,CP];refine zF 2 zH ?_;refine zF 3 zH ?_;simp only [zd,CP];refine zF 5 zH ?_;refine zF 7 zH ?_;simp only [zd,CP];refine rdA [4,6] ?_;refine Ds rfl (fun K o=>?_) ?_
      ·skip
       have hx:=e3;go_simp;clear hx;refine DU o trivial fun zH=>?_;clear o K;try simp only [zd,CP]
       refine AC 6 fun K o=>?_
       skip
       go_simp;go_at_call 40;refine (c8.out _ e3).mono ?_;rintro e wa2 ⟨rfl,j4⟩;have g1:zc wr wa2:=e3.trans (j4.below _);go_simp;refine DU o trivial fun zH=>?_;clear o K;try simp only [zd,CP]
       refine AC 8 fun K o=>?_
       skip
       go_simp;go_at_call 58;refine (with_c _ (a5.out.ext g1) HG.out HL.out hR.out.ch b2.out).mono ?_;rintro e wa3 ⟨q,rfl,b0,hq⟩;have HQ:=zh (push_ok (g:=g) (gr:=gr) hq g1 hR.out.rt (fun b hb=>CU G.size hb));clear hq;have e1:zc wr wa3:=g1.trans b0;clear b0;go_simp;refine DU o trivial fun zH=>?_;clear o K;try simp only [zd,CP]
       refine AC 9 fun K o=>?_
       skip
       go_simp;refine DU o trivial fun zH=>?_;clear o K;try simp only [zd,CP]
       refine AC 10 fun K o=>?_
       skip
       have J:=hR.out.rt.ext e1;have E:=zh J;have a2:wa3.cell? ⟨g,0,none⟩=some (.slice (some ⟨gr,0,none⟩) pt.length cap):=J.blk.cell (k:=0) rfl;have a3:wa3.frozen? ⟨g,0,none⟩=false:=J.blk.frozen 0;clear J;refine step_append_lies (P:=Tryz.prog) _ (by rfl) _ _ 99 (by rfl) 0 107 i0 (.pointer none) 1 8 Tryz.underlying99 IF.out IZ0.out IZ1.out IZ2.out rfl (by decide) (.slice (some ⟨gr,0,none⟩) pt.length cap) pt.length _ (by rfl) (E.out.row.1.alloc _) ⟨wa3.heap.size,0,none⟩ 1 1 [ptrV q] (by rfl) rfl (cell_one_new _ _ _) (by simp [ptrV,Value.oneCell']) (by decide) (by unfold maxLen;omega) (by omega) (Dg _) (wa3.heap.size+1) (by simp) ?_;intro g5 c5 w9 U hg hv _;obtain ⟨gr',cap',g9,B,O⟩:=E.out.push HQ.out (fun b hb=>CU G.size (CU e1.size hb)) (fun b hb=>Dt (e0.out b hb) (CU G.size e1.size)) U hg (by rcases hv with hv | hv;exact .inl hv.symm;exact .inr (congrArg some hv));have D:w9.heap[g]?=wa3.heap[g]?:=(hg.block g (by have:=za E.out.blk;simp;omega) (fun e=>E.out.ne (by injection e))).trans (Dk _ _ _ (za E.out.blk));have e2:w9.cell? ⟨g,0,none⟩=some (.slice (some ⟨gr,0,none⟩) pt.length cap):=(Dh D).trans a2;have e6:w9.frozen? ⟨g,0,none⟩=false:=(Dq (a:=⟨g,0,none⟩) D).trans a3;have b1:Hid (zc w (w9.setCell ⟨g,0,none⟩ (.slice (some ⟨g5,0,none⟩) (pt.length+1) c5))):=Below.trans (G.trans e1) (O.below (CU G.size e1.size) (fun b hb=>hb));have a1:=zh B;clear U hg hv B O D a2 a3;refine DU o trivial fun zH=>?_;clear o K;try simp only [zd,CP]
       refine AC 11 fun K o=>?_
       skip
       go_simp;refine DU o trivial fun zH=>?_;clear o K;try simp only [zd,CP]
       refine AC 12 fun K o=>?_
       skip
       go_simp;refine DU o trivial fun zH=>?_;clear o K;try simp only [zd,CP]
       refine AC 13 fun K o=>?_
       skip
       go_simp;refine DU o trivial fun zH=>?_;clear o K;try simp only [zd,CP]
       refine Dv (by kernel_rfl) ?_ _
       go_wp2_with fail
       go_roundg (ch.length - (k+1))
       case measure=>omega
       case rel=>exact ⟨k+1,_,_,_,by go_num,a8,rfl,⟨by have:=a1.out;rwa [a7.out] at this,b1.out,by rw [<-a7.out];exact .snoc hR.out.ch b2.out⟩⟩
      refine Ds rfl (fun K o=>?_) .nil
      skip
      go_simp;go_at_call 40;refine (c8.out _ e3).mono ?_;rintro e wa9 ⟨rfl,b6⟩;have b3:zc wr wa9:=e3.trans (b6.below _);go_simp;refine DU o trivial fun zH=>?_;clear o K;try simp only [zd,CP]
      refine rdA [4,8] ?_;refine Ds rfl (fun K o=>?_) ?_
      ·skip
       have hx:=b3;go_simp;clear hx;refine DU o trivial fun zH=>?_;clear o K;try simp only [zd,CP]
       refine AC 8 fun K o=>?_
       skip
       go_simp;go_at_call 58;refine (with_c _ (a5.out.ext b3) HG.out HL.out hR.out.ch b2.out).mono ?_;rintro e wa11 ⟨q,rfl,b0,hq⟩;have HQ:=zh (push_ok (g:=g) (gr:=gr) hq b3 hR.out.rt (fun b hb=>CU G.size hb));clear hq;have a6:zc wr wa11:=b3.trans b0;clear b0;go_simp;refine DU o trivial fun zH=>?_;clear o K;try simp only [zd,CP]
       refine AC 9 fun K o=>?_
       skip
       go_simp;refine DU o trivial fun zH=>?_;clear o K;try simp only [zd,CP]
       refine AC 10 fun K o=>?_
       skip
       have J:=hR.out.rt.ext a6;have E:=zh J;have a2:wa11.cell? ⟨g,0,none⟩=some (.slice (some ⟨gr,0,none⟩) pt.length cap):=J.blk.cell (k:=0) rfl;have a3:wa11.frozen? ⟨g,0,none⟩=false:=J.blk.frozen 0;clear J;refine step_append_lies (P:=Tryz.prog) _ (by rfl) _ _ 99 (by rfl) 0 107 i0 (.pointer none) 1 8 Tryz.underlying99 IF.out IZ0.out IZ1.out IZ2.out rfl (by decide) (.slice (some ⟨gr,0,none⟩) pt.length cap) pt.length _ (by rfl) (E.out.row.1.alloc _) ⟨wa11.heap.size,0,none⟩ 1 1 [ptrV q] (by rfl) rfl (cell_one_new _ _ _) (by simp [ptrV,Value.oneCell']) (by decide) (by unfold maxLen;omega) (by omega) (Dg _) (wa11.heap.size+1) (by simp) ?_;intro g5 c5 w9 U hg hv _;obtain ⟨gr',cap',g9,B,O⟩:=E.out.push HQ.out (fun b hb=>CU G.size (CU a6.size hb)) (fun b hb=>Dt (e0.out b hb) (CU G.size a6.size)) U hg (by rcases hv with hv | hv;exact .inl hv.symm;exact .inr (congrArg some hv));have D:w9.heap[g]?=wa11.heap[g]?:=(hg.block g (by have:=za E.out.blk;simp;omega) (fun e=>E.out.ne (by injection e))).trans (Dk _ _ _ (za E.out.blk));have e2:w9.cell? ⟨g,0,none⟩=some (.slice (some ⟨gr,0,none⟩) pt.length cap):=(Dh D).trans a2;have e6:w9.frozen? ⟨g,0,none⟩=false:=(Dq (a:=⟨g,0,none⟩) D).trans a3;have b1:Hid (zc w (w9.setCell ⟨g,0,none⟩ (.slice (some ⟨g5,0,none⟩) (pt.length+1) c5))):=Below.trans (G.trans a6) (O.below (CU G.size a6.size) (fun b hb=>hb));have a1:=zh B;clear U hg hv B O D a2 a3;refine DU o trivial fun zH=>?_;clear o K;try simp only [zd,CP]
       refine AC 11 fun K o=>?_
       skip
       go_simp;refine DU o trivial fun zH=>?_;clear o K;try simp only [zd,CP]
       refine AC 12 fun K o=>?_
       skip
       go_simp;refine DU o trivial fun zH=>?_;clear o K;try simp only [zd,CP]
       refine AC 13 fun K o=>?_
       skip
       go_simp;refine DU o trivial fun zH=>?_;clear o K;try simp only [zd,CP]
       refine Dv (by kernel_rfl) ?_ _
       go_wp2_with fail
       go_roundg (ch.length - (k+1))
       case measure=>omega
       case rel=>exact ⟨k+1,_,_,_,by go_num,a8,rfl,⟨by have:=a1.out;rwa [a7.out] at this,b1.out,by rw [<-a7.out];exact .snoc hR.out.ch b2.out⟩⟩
      refine Ds rfl (fun K o=>?_) .nil
      skip
      go_simp;go_at_call 58;refine (with_c _ (a5.out.ext b3) HG.out HL.out hR.out.ch b2.out).mono ?_;rintro e wa17 ⟨q,rfl,b0,hq⟩;have HQ:=zh (push_ok (g:=g) (gr:=gr) hq b3 hR.out.rt (fun b hb=>CU G.size hb));clear hq;have M:zc wr wa17:=b3.trans b0;clear b0;go_simp;refine DU o trivial fun zH=>?_;clear o K;try simp only [zd,CP]
      refine rdA [4,9] ?_;refine Ds rfl (fun K o=>?_) ?_
      ·skip
       have hx:=M;go_simp;clear hx;refine DU o trivial fun zH=>?_;clear o K;try simp only [zd,CP]
       refine AC 9 fun K o=>?_
       skip
       go_simp;refine DU o trivial fun zH=>?_;clear o K;try simp only [zd,CP]
       refine AC 10 fun K o=>?_
       skip
       have J:=hR.out.rt.ext M;have E:=zh J;have a2:wa17.cell? ⟨g,0,none⟩=some (.slice (some ⟨gr,0,none⟩) pt.length cap):=J.blk.cell (k:=0) rfl;have a3:wa17.frozen? ⟨g,0,none⟩=false:=J.blk.frozen 0;clear J;refine step_append_lies (P:=Tryz.prog) _ (by rfl) _ _ 99 (by rfl) 0 107 i0 (.pointer none) 1 8 Tryz.underlying99 IF.out IZ0.out IZ1.out IZ2.out rfl (by decide) (.slice (some ⟨gr,0,none⟩) pt.length cap) pt.length _ (by rfl) (E.out.row.1.alloc _) ⟨wa17.heap.size,0,none⟩ 1 1 [ptrV q] (by rfl) rfl (cell_one_new _ _ _) (by simp [ptrV,Value.oneCell']) (by decide) (by unfold maxLen;omega) (by omega) (Dg _) (wa17.heap.size+1) (by simp) ?_;intro g5 c5 w9 U hg hv _;obtain ⟨gr',cap',g9,B,O⟩:=E.out.push HQ.out (fun b hb=>CU G.size (CU M.size hb)) (fun b hb=>Dt (e0.out b hb) (CU G.size M.size)) U hg (by rcases hv with hv | hv;exact .inl hv.symm;exact .inr (congrArg some hv));have D:w9.heap[g]?=wa17.heap[g]?:=(hg.block g (by have:=za E.out.blk;simp;omega) (fun e=>E.out.ne (by injection e))).trans (Dk _ _ _ (za E.out.blk));have e2:w9.cell? ⟨g,0,none⟩=some (.slice (some ⟨gr,0,none⟩) pt.length cap):=(Dh D).trans a2;have e6:w9.frozen? ⟨g,0,none⟩=false:=(Dq (a:=⟨g,0,none⟩) D).trans a3;have b1:Hid (zc w (w9.setCell ⟨g,0,none⟩ (.slice (some ⟨g5,0,none⟩) (pt.length+1) c5))):=Below.trans (G.trans M) (O.below (CU G.size M.size) (fun b hb=>hb));have a1:=zh B;clear U hg hv B O D a2 a3;refine DU o trivial fun zH=>?_;clear o K;try simp only [zd,CP]
       refine AC 11 fun K o=>?_
       skip
       go_simp;refine DU o trivial fun zH=>?_;clear o K;try simp only [zd,CP]
       refine AC 12 fun K o=>?_
       skip
       go_simp;refine DU o trivial fun zH=>?_;clear o K;try simp only [zd,CP]
       refine AC 13 fun K o=>?_
       skip
       go_simp;refine DU o trivial fun zH=>?_;clear o K;try simp only [zd,CP]
       refine Dv (by kernel_rfl) ?_ _
       go_wp2_with fail
       go_roundg (ch.length - (k+1))
       case measure=>omega
       case rel=>exact ⟨k+1,_,_,_,by go_num,a8,rfl,⟨by have:=a1.out;rwa [a7.out] at this,b1.out,by rw [<-a7.out];exact .snoc hR.out.ch b2.out⟩⟩
      refine Ds rfl (fun K o=>?_) .nil
      skip
      go_simp;refine DU o trivial fun zH=>?_;clear o K;try simp only [zd,CP]
      refine AC 4 fun K o=>?_
      skip
      have hx:=(M.alloc (.cells #[.pointer (some ⟨q,0,none⟩)] 107));go_simp;clear hx;refine DU o trivial fun zH=>?_;clear o K;try simp only [zd,CP]
      refine AC 10 fun K o=>?_
      skip
      have J:=hR.out.rt.ext M;have E:=zh J;have a2:wa17.cell? ⟨g,0,none⟩=some (.slice (some ⟨gr,0,none⟩) pt.length cap):=J.blk.cell (k:=0) rfl;have a3:wa17.frozen? ⟨g,0,none⟩=false:=J.blk.frozen 0;clear J;refine step_append_lies (P:=Tryz.prog) _ (by rfl) _ _ 99 (by rfl) 0 107 i0 (.pointer none) 1 8 Tryz.underlying99 IF.out IZ0.out IZ1.out IZ2.out rfl (by decide) (.slice (some ⟨gr,0,none⟩) pt.length cap) pt.length _ (by rfl) (E.out.row.1.alloc _) ⟨wa17.heap.size,0,none⟩ 1 1 [ptrV q] (by rfl) rfl (cell_one_new _ _ _) (by simp [ptrV,Value.oneCell']) (by decide) (by unfold maxLen;omega) (by omega) (Dg _) (wa17.heap.size+1) (by simp) ?_;intro g5 c5 w9 U hg hv _;obtain ⟨gr',cap',g9,B,O⟩:=E.out.push HQ.out (fun b hb=>CU G.size (CU M.size hb)) (fun b hb=>Dt (e0.out b hb) (CU G.size M.size)) U hg (by rcases hv with hv | hv;exact .inl hv.symm;exact .inr (congrArg some hv));have D:w9.heap[g]?=wa17.heap[g]?:=(hg.block g (by have:=za E.out.blk;simp;omega) (fun e=>E.out.ne (by injection e))).trans (Dk _ _ _ (za E.out.blk));have e2:w9.cell? ⟨g,0,none⟩=some (.slice (some ⟨gr,0,none⟩) pt.length cap):=(Dh D).trans a2;have e6:w9.frozen? ⟨g,0,none⟩=false:=(Dq (a:=⟨g,0,none⟩) D).trans a3;have b1:Hid (zc w (w9.setCell ⟨g,0,none⟩ (.slice (some ⟨g5,0,none⟩) (pt.length+1) c5))):=Below.trans (G.trans M) (O.below (CU G.size M.size) (fun b hb=>hb));have a1:=zh B;clear U hg hv B O D a2 a3;refine DU o trivial fun zH=>?_;clear o K;try simp only [zd,CP]
      refine AC 11 fun K o=>?_
      skip
      go_simp;refine DU o trivial fun zH=>?_;clear o K;try simp only [zd,CP]
      refine AC 12 fun K o=>?_
      skip
      go_simp;refine DU o trivial fun zH=>?_;clear o K;try simp only [zd,CP]
      refine AC 13 fun K o=>?_
      skip
      go_simp;refine DU o trivial fun zH=>?_;clear o K;try simp only [zd,CP]
      refine Dv (by kernel_rfl) ?_ _
      go_wp2_with fail
      go_roundg (ch.length - (k+1))
      case measure=>omega
      case rel=>exact ⟨k+1,_,_,_,by go_num,a8,rfl,⟨by have:=a1.out;rwa [a7.out] at this,b1.out,by rw [<-a7.out];exact .snoc hR.out.ch b2.out⟩⟩
     ·rw [CW d4]
      have a0:loadE m ch st=51:=by
       rw [d8.out]
       have:isChB m ch=false:=by
        rw [Bool.eq_false_iff];intro h;have h1:=(Ck.1 h).at a8;rw [<-HN.out] at h1;exact d4 h1
       rw [this];rfl
      have Q:AS w Y m ch st (.returned (.tuple #[.pointer none,.int .i64 51])) w6:=⟨.pointer none,by rw [a0],G.trans a9,.inl ⟨by rw [a0];decide,rfl⟩⟩;have I:=zh Q;clear Q a0 d4
      go_wp2_with fail
      go_ret2
      exact I.out
    ·have j5:k=ch.length:=by omega
     subst j5;have f1:Hid (ch.take ch.length=ch):=Dd;have c7:Hid (zQ m ch):=by have:=hR.out.ch;rwa [f1.out] at this
     have g4:isChB m ch=true:=Ck.2 c7.out;rw [g4] at d8;have l1:=zh g4;clear g4;rw [f1.out] at a5;by_cases V:ch=[]
     ·have f5:decide ((0:Int)<(ch.length:Int))=false:=by rw [V];rfl
      have e9:((ch.length:Int)==0)=true:=by rw [V];rfl
      have k2:decide (0<ch.length)=false:=by rw [V];rfl
      have k3:decide (ch.length=0)=true:=by rw [V];rfl
      have f6:=zh V;have d9:Hid (loadE m ch st=0):=by show _=_;rw [d8.out,CV V];rfl
      clear V
      go_wp2_with fail
      refine (c8.out wr (zc.refl _)).mono ?_;rintro e w8 ⟨rfl,e5⟩;have b9:zc wr w8:=zc.trans (zc.refl _) (e5.below _);clear e5
      go_wp2_with fail
      refine (Co w8 (a5.out.ext b9) HG.out HL.out c7.out).mono ?_;rintro e w9 ⟨rfl,b6⟩;have e8:zc wr w9:=b9.trans (b6.below _);clear b6 b9;obtain ⟨cb,b4⟩:=DT (Bc m ch);rw [<-b4];have c6:=zh b4;clear b4;have B:=hR.out.rt.ext e8;have e2:w9.cell? ⟨g,1,none⟩=some (.bool false):=B.blk.cell (k:=1) rfl;have e6:w9.frozen? ⟨g,1,none⟩=false:=B.blk.frozen 1;have I:Hid (∀d,d=(loadS m ch st).done->AS w Y m ch st (.returned (.tuple #[.pointer (some ⟨g,0,none⟩),.int .i64 0])) (w9.setCell ⟨g,1,none⟩ (.bool d))):=fun d hd=>load_fin B (G.trans e8) f1.out c7.out HG.out d9.out hd
      clear B
      cases cb with
      | true=>
       go_wp2_with fail
       go_ret2
       exact I.out true (by unfold loadS;rw [<-c6.out];rfl)
      | false=>
       by_cases f2:0<st
       ·have j8:decide (0<st)=true:=CV f2
        go_wp2_with fail
        go_ret2
        exact I.out true (by unfold loadS;rw [<-c6.out,f6.out];simp [f2])
       ·have j8:decide (0<st)=false:=CW f2
        go_wp2_with fail
        go_ret2
        exact I.out false (by unfold loadS;rw [<-c6.out,f6.out];simp [f2])
     ·have i3:0<ch.length:=List.length_pos_iff.2 V;have f5:decide ((0:Int)<(ch.length:Int))=true:=CV (by omega);have e9:((ch.length:Int)==0)=false:=by rw [Df];omega
      have k2:decide (0<ch.length)=true:=CV i3;have k3:decide (ch.length=0)=false:=CW (by omega);have f9:=zh V;clear V
      go_wp2_with fail
      refine (c8.out wr (zc.refl _)).mono ?_;rintro e w5 ⟨rfl,e4⟩;have b8:zc wr w5:=e4.below _;clear e4
      go_wp2_with fail
      refine (open_c w5 (a5.out.ext b8) HG.out HL.out c7.out).mono ?_;rintro e w6 ⟨rfl,a9⟩;have a9:zc wr w6:=b8.trans a9;clear b8;obtain ⟨ob,g7⟩:=DT (AH m ch);rw [<-g7];have h6:=zh g7;clear g7
      cases ob with
      | false=>
       have a0:loadE m ch st=51:=by rw [d8.out,CW f9.out,<-h6.out];rfl
       have Q:AS w Y m ch st (.returned (.tuple #[.pointer none,.int .i64 51])) w6:=⟨.pointer none,by rw [a0],G.trans a9,.inl ⟨by rw [a0];decide,rfl⟩⟩;have I:=zh Q;clear Q a0
       go_wp2_with fail
       go_ret2
       exact I.out
      | true=>
       have d9:Hid (loadE m ch st=0):=by show _=_;rw [d8.out,CW f9.out,<-h6.out];rfl
       go_wp2_with fail
       refine (c8.out w6 a9).mono ?_;rintro e w8 ⟨rfl,e5⟩;have b9:zc wr w8:=zc.trans a9 (e5.below _);clear e5
       go_wp2_with fail
       refine (Co w8 (a5.out.ext b9) HG.out HL.out c7.out).mono ?_;rintro e w9 ⟨rfl,b6⟩;have e8:zc wr w9:=b9.trans (b6.below _);clear b6 b9;obtain ⟨cb,b4⟩:=DT (Bc m ch);rw [<-b4];have c6:=zh b4;clear b4;have B:=hR.out.rt.ext e8;have e2:w9.cell? ⟨g,1,none⟩=some (.bool false):=B.blk.cell (k:=1) rfl;have e6:w9.frozen? ⟨g,1,none⟩=false:=B.blk.frozen 1;have I:Hid (∀d,d=(loadS m ch st).done->AS w Y m ch st (.returned (.tuple #[.pointer (some ⟨g,0,none⟩),.int .i64 0])) (w9.setCell ⟨g,1,none⟩ (.bool d))):=fun d hd=>load_fin B (G.trans e8) f1.out c7.out HG.out d9.out hd
       clear B
       cases cb with
       | true=>
        go_wp2_with fail
        go_ret2
        exact I.out true (by unfold loadS;rw [<-c6.out];rfl)
       | false=>
        go_wp2_with fail
        go_ret2
        exact I.out false (by unfold loadS;rw [<-c6.out];simp [f9.out])
theorem new_calls {m:MZ} (w:World) (hm:zV w Y v m) (O:Lens m) (D:∀b,Y b->b<w.heap.size):
  Calls Tryz.prog 16 #[v] w (AS w Y m [] 0):=by
 have E:=hm;obtain ⟨vfr,vup,vts,rfl,_,_,_⟩:=hm;have I:=zh E;clear E;have Q:=zh O;clear O;have J:=zh D;clear D
 go_enter Tryz.func16,Tryz.ntmps16
 go_wp2_with fail
 generalize G:w.alloc (.cells #[.int .i64 m.w,.int .i64 m.h,.int .i64 m.l,vfr,vup,vts] 29)=w1;have d:zc w w1:=by rw [<-G];exact (zc.refl w).alloc _
 clear G;refine (load_calls (okc:=fun _=>True) 0 w1 (I.out.below d) Q.out (zk.nil _ _) (by simp) (fun b K=>Dt (J.out b K) d.size)).mono ?_;rintro e w2 ⟨v2,rfl,M,hp⟩
 have o:AS w Y m [] 0 (.returned (.tuple #[v2,.int .i64 (loadE m [] 0)])) w2:=by
  refine ⟨v2,rfl,d.trans M,?_⟩;rcases hp with hp | ⟨h1,U,V,g,gr,cap,pt,h4,h5⟩
  ·exact .inl hp
  ·exact .inr ⟨h1,U,V,g,gr,cap,pt,h4,h5.widen (fun b K=>CU d.size K)⟩
 have B:=zh o;clear o hp M
 go_wp2_with fail
 go_ret2
 exact B.out
def okC (m:MZ) (ch:List Int):Bool:=decide (Cw m=0) && isChB m ch
def candO (m:MZ) (ch:List Int):List Int:=if okC m ch=true then Bb m ch else []
noncomputable def openO (m:MZ) (ch:List Int):Bool:=okC m ch && AH m ch
def pathsO (m:MZ) (ch:List Int):List (List Int):=if okC m ch=true then (AU m ch).filter (fun p=>decide (p.length≠0)) else []
end
section
open Go.RowKit
inductive PT where
 | node (task:Int) (side:List Int) (kids:List PT)
def PT.task:PT->Int | .node t _ _=>t
def PT.side:PT->List Int | .node _ s _=>s
def PT.kids:PT->List PT | .node _ _ k=>k
def PT.zero:PT:=.node 0 [] []
def endB (m:MZ) (pp:List (List Int)) (t:Nat):Bool:=match (pp.getD t []).getLast? with
 | none=>false
 | some x=>decide (x∈(m.tasks.getD t ([],[])).2)
def curF (m:MZ) (pp:List (List Int)):Nat->Nat->Nat
 | 0,t=>t
 | f+1,t=>if t<pp.length/\endB m pp t=true then curF m pp f (t+1) else t
def curT (m:MZ) (ch:List Int):Nat:=curF m (pathsO m ch) (pathsO m ch).length 0
def headP (m:MZ) (ch:List Int) (t:Nat):List Int:=if t<(pathsO m ch).length then ((pathsO m ch).getD t []).getLast?.toList else (m.tasks.getD t ([],[])).1.filter fun n=>zp m t n && !decide (n∈ch)
noncomputable def sideP (m:MZ) (ch:List Int) (t:Nat):List Int:=reachO m t (headP m ch t) ch
noncomputable def offB (m:MZ) (ch:List Int) (t:Nat):Bool:=!((sideP m ch t).any fun n=>decide (n∈(m.tasks.getD t ([],[])).2)) && (decide (sideP m ch t≠[]) || decide (curT m ch<t))
noncomputable def cutT (m:MZ) (ch:List Int):Option Nat:=((List.range (m.tasks.length - curT m ch)).map (curT m ch+·)).find? (offB m ch)
def kidsR (f:Int->Nat->Int×PT×Nat):List Int->Nat->List PT->Int×List PT×Nat
 | [],k,acc=>(0,acc,k)
 | n :: l,k,acc=>if (f n k).1=0 then kidsR f l (f n k).2.2 (acc++[(f n k).2.1]) else ((f n k).1,[],(f n k).2.2)
noncomputable def proveP (m:MZ):Nat->List Int->Nat->Int×PT×Nat
 | 0,_,k=>(53,.zero,k)
 | f+1,ch,k=>
  if m.tasks.length<=curT m ch then (51,.zero,k)
  else if 3000<k+1 then (53,.zero,k+1)
  else match cutT m ch with
   | some t=>(0,.node t (sideP m ch t) [],k+1)
   | none=>
    let r:=kidsR (fun n k=>proveP m f (ch++[n]) k) (candO m ch) (k+1) []
    if r.1=0 then (0,.node (curT m ch) [] r.2.1,r.2.2) else (r.1,.zero,r.2.2)
noncomputable def Ar (m:MZ):Int×PT:=if Cw m=0 then ((proveP m (m.n.toNat+2) [] 0).1,(proveP m (m.n.toNat+2) [] 0).2.1) else (Cw m,.zero)
mutual
def PT.size:PT->Nat
 | .node _ _ ks=>1+PT.sizeL ks
def PT.sizeL:List PT->Nat
 | []=>0
 | k :: ks=>k.size+PT.sizeL ks
end
structure PathR (m:MZ) (t:Nat) (p:List Int):Prop where
 hd:∀x,p.head?=some x->x∈(m.tasks.getD t ([],[])).1
 fr:∀x∈p,zp m t x=true
 nb:∀k x y,p[k]?=some x->p[k+1]?=some y->y∈zr m x
def FinP (m:MZ) (t:Nat) (p:List Int):Prop:=∃x,p.getLast?=some x/\x∈(m.tasks.getD t ([],[])).2
theorem PathR.nil (m:MZ) (t:Nat):PathR m t []:=⟨(fun x h=>by cases h),(fun x h=>by cases h),(fun k x y h=>by simp at h)⟩
theorem PathR.snoc {m:MZ} {t:Nat} {p:List Int} {n:Int} (h:PathR m t p) (hf:zp m t n=true) (h0:p=[]->n∈(m.tasks.getD t ([],[])).1) (h1:∀x,p.getLast?=some x->n∈zr m x):PathR m t (p++[n]):=by
 refine ⟨fun x hx=>?_,fun x hx=>?_,fun k x y hx d=>?_⟩
 ·cases p with
  | nil=>
   have:n=x:=by simpa using hx
   subst this;exact h0 rfl
  | cons a p=>exact h.hd x (by simpa using hx)
 ·rcases DF.1 hx with hx | hx
  ·exact h.fr x hx
  ·rw [Dy] at hx;subst hx;exact hf
 ·rcases Do (k+1) p.length with hk | hk
  ·rw [CX (by omega)] at hx;rw [CX hk] at d;exact h.nb k x y hx d
  ·have o:k+1<(p++[n]).length:=by
    rcases Do (k+1) (p++[n]).length with h2 | h2
    ·exact h2
    ·rw [Dl h2] at d;cases d
   have B:k+1=p.length:=by simp at o;omega
   rw [CY (by omega),show k+1 - p.length=0 from by omega] at d;have:n=y:=by simpa using d
   subst this;rw [CX (by omega)] at hx;refine h1 x ?_;rw [List.getLast?_eq_getElem?,show p.length - 1=k from by omega];exact hx
structure PsR (m:MZ) (ps:List (List Int)):Prop where
 one:∀t p,ps[t]?=some p->PathR m t p
 fin:∀t p,ps[t]?=some p->t+1<ps.length->FinP m t p
theorem cand_step {m:MZ} {us:List Int} (h:n∈Bw m ps us):zp m (ps.length - 1) n=true/\((ps.getD (ps.length - 1) [])=[]->n∈(m.tasks.getD (ps.length - 1) ([],[])).1)/\(∀x,(ps.getD (ps.length - 1) []).getLast?=some x->n∈zr m x):=by
 unfold Bw at h
 split at h
 ·cases h
 ·split at h
  ·rename_i o
   obtain ⟨h1,d⟩:=DM.1 h;simp only [De] at d;exact ⟨d.1,fun _=>mem_sortL.1 (CH h1),fun x D=>by rw [o] at D;cases D⟩
  ·rename_i x o
   obtain ⟨h1,d⟩:=DM.1 h;unfold z8 at d;simp only [De] at d;refine ⟨d.1.1.1,(fun h0=>by rw [h0] at o;cases o),fun y B=>?_⟩;rw [o] at B;injection B with B;subst B;exact h1
theorem PsR.add {m:MZ} {us:List Int} (h:PsR m ps) (hp:0<ps.length) (J:n∈Bw m ps us):PsR m (addN ps n):=by
 obtain ⟨h1,B,D⟩:=cand_step J;obtain ⟨qs,p,rfl,he⟩:=addN_eq hp n;rw [he];have I:(qs++[p]).length - 1=qs.length:=by simp
 have G:(qs++[p]).getD qs.length []=p:=by simp
 rw [I] at h1 B D;rw [G] at B D;refine ⟨fun t q o=>?_,fun t q o ht=>?_⟩
 ·rcases Do t qs.length with d | hge
  ·rw [CX d] at o;exact h.one t q (by rw [CX d];exact o)
  ·have E:t=qs.length:=by
    rcases Do t (qs++[p++[n]]).length with h4 | h4
    ·simp at h4;omega
    ·rw [Dl h4] at o;cases o
   subst E;rw [CY (CS _),Nat.sub_self] at o;have:p++[n]=q:=by simpa using o
   subst this;exact (h.one qs.length p (by simp)).snoc h1 B D
 ·have d:t<qs.length:=by simp at ht;omega
  rw [CX d] at o;exact h.fin t q (by rw [CX d];exact o) (by simp;omega)
theorem PsR.with {m:MZ} {ps:List (List Int)} {us:List Int} {n:Int} (h:PsR m ps) (hp:0<ps.length) (E:n∈Bw m ps us):PsR m (AR m ps n):=by
 have h1:=h.add hp E;unfold AR
 split
 ·rename_i hf
  have d:(addN ps n).length=ps.length:=Cg
  have hF:∀t p,(addN ps n)[t]?=some p->t+1=ps.length->FinP m t p:=fun t p ht he=>by
   have h2:=hf.1;unfold finB at h2;rw [d,show ps.length - 1=t from by omega,CR,ht] at h2;simp only [Dw] at h2
   split at h2
   ·cases h2
   ·rename_i x G
    exact ⟨x,G,of_decide_eq_true h2⟩
  refine ⟨fun t p ht=>?_,fun t p ht o=>?_⟩
  ·rcases Do t (addN ps n).length with h2 | h2
   ·rw [CX h2] at ht;exact h1.one t p ht
   ·rw [CY h2] at ht
    have B:p=[]:=by
     cases D:t - (addN ps n).length with
     | zero=>rw [D] at ht;simpa using ht.symm
     | succ j=>rw [D] at ht;simp at ht
    subst B;exact PathR.nil m t
  ·have h2:t<(addN ps n).length:=by simp at o;omega
   rw [CX h2] at ht;rcases Do (t+1) (addN ps n).length with h3 | h3
   ·exact h1.fin t p ht h3
   ·exact hF t p ht (by omega)
 ·exact h1
theorem zQ.psR {m:MZ} (h:zQ m ch):PsR m (AU m ch):=by
 induction h with
 | nil=>
  rw [psOf_nil];unfold ps0
  split
  ·exact ⟨fun t p h=>by simp at h,fun t p h=>by simp at h⟩
  ·refine ⟨fun t p h=>?_,fun t p h o=>by simp at o⟩
   match t,h with
   | 0,h=>
    have:p=[]:=by simpa using h.symm
    subst this;exact PathR.nil m 0
 | @snoc ch n h d ih=>
  rw [psOf_snoc];exact ih.with (h.psOk.pn (BW (BL d))) d
theorem zQ.all {m:MZ} (h:zQ m ch) (d:Bc m ch=true):(AU m ch).length=m.tasks.length/\(∀t p,(AU m ch)[t]?=some p->PathR m t p/\FinP m t p):=by
 have o:=h.psR;have B:=h.psOk;unfold Bc cmpB at d;rw [DO,Dc,De,Dc] at d;rcases d with h0 | ⟨h0,h1⟩
 ·have:=B.pl;refine ⟨by omega,fun t p ht=>?_⟩;rw [Dl (by omega)] at ht;cases ht
 ·refine ⟨h0,fun t p ht=>⟨o.one t p ht,?_⟩⟩
  have D:t<(AU m ch).length:=by
   rcases Do t (AU m ch).length with h2 | h2
   ·exact h2
   ·rw [Dl h2] at ht;cases ht
  rcases Do (t+1) (AU m ch).length with h2 | h2
  ·exact o.fin t p ht h2
  ·unfold finB at h1;rw [show (AU m ch).length - 1=t from by omega,CR,ht] at h1;simp only [Dw] at h1
   split at h1
   ·cases h1
   ·rename_i x E
    exact ⟨x,E,of_decide_eq_true h1⟩
end
section
open Go.RowKit
attribute [local go_sem ↓] Go.wp_at_zero Go.wp_at_succ
theorem zV.parts {m:MZ} (h:zV w ok v m):∃Af cf Au cu At ct,v=.agg #[.int .i64 m.w,.int .i64 m.h,.int .i64 m.l,.slice Af m.free.length cf,.slice Au m.up.length cu,.slice At m.tasks.length ct]/\
  AP w ok (.slice Af m.free.length cf) m.free/\AA w ok (.slice Au m.up.length cu) m.up/\Bf w ok (.slice At m.tasks.length ct) m.tasks:=by
 obtain ⟨vfr,vup,vts,rfl,hf,D,ht⟩:=h;have d:=hf;have B:=D;have o:=ht;obtain ⟨_,⟨Af,cf,rfl,-⟩,-⟩:=d;obtain ⟨Au,cu,rfl,-⟩:=B;obtain ⟨_,⟨At,ct,rfl,-⟩,-⟩:=o;exact ⟨Af,cf,Au,cu,At,ct,rfl,hf,D,ht⟩
theorem zw.ext (h:zw w w'):zc w w':=h.below _
inductive Cx (w:World) (ok:Nat->Prop):Value->PT->Prop
 | mk {t:Int} {side:List Int} {kids:List PT} {vs vk:Value} {cs:List Value} (hs:zk w ok vs side) (hk:Bd w ok 3 vk kids.length cs)
  (he:∀(i:Nat) (hi:i<kids.length),Cx w ok (.agg #[cs.getD (i*3) undef,cs.getD (i*3+1) undef,cs.getD (i*3+2) undef]) kids[i]):Cx w ok (.agg #[.int .i64 t,vs,vk]) (.node t side kids)
theorem Cx.keepW {ok':Nat->Prop} {p:PT} (h:Cx w ok v p) (d:zW ok w w') (o:∀b,ok b->ok' b):Cx w' ok' v p:=by
 induction h with
 | mk h1 B _ ih=>exact .mk ((h1.keep d).weaken o) ((B.keep d).weaken o) ih
theorem Cx.ext {p:PT} (h:Cx w ok v p) (d:zc w w'):Cx w' ok v p:=h.keepW (zW.of_below d) (fun _ h=>h)
theorem Cx.zero (w:World) (ok:Nat->Prop):Cx w ok (.agg #[.int .i64 0,.slice none 0 0,.slice none 0 0]) PT.zero:=
 .mk (cs:=[]) (zk.nil _ _) ⟨none,0,rfl,CS _,Ag.nil _ _ _ _⟩ (fun i d=>absurd d (by simp))
theorem Cx.form {p:PT} (h:Cx w ok v p):∃As cs Ak ck,v=.agg #[.int .i64 p.task,.slice As p.side.length cs,.slice Ak p.kids.length ck]/\zk w ok (.slice As p.side.length cs) p.side:=by
 cases h with
 | mk h1 o _=>
  have d:=h1;obtain ⟨As,cs,rfl,-,-⟩:=h1;obtain ⟨Ak,ck,rfl,-,-⟩:=o;exact ⟨As,cs,Ak,ck,rfl,d⟩
end
section
open Go.RowKit
attribute [local go_sem ↓] Go.wp_at_zero Go.wp_at_succ
attribute [local go_sem] Oper.semAt_some
mutual
def PT.Lens:PT->Prop
 | .node _ s ks=>s.length<=20000000000000/\ks.length<=20000000000000/\PT.LensL ks
def PT.LensL:List PT->Prop
 | []=>True
 | k :: ks=>k.Lens/\PT.LensL ks
end
end
section
open Go.RowKit
theorem Cx.bound {w:World} {ok:Nat->Prop} {v:Value} {p:PT} (h:Cx w ok v p):Cx w (fun b=>ok b/\b<w.heap.size) v p:=by
 induction h with
 | mk h1 d _ ih=>exact .mk h1.bound (d.bound (by decide)) ih
theorem zG.wide {X':Nat->Prop} (h:zG X a b) (d:∀k,X k->X' k):zG X' a b:=⟨h.os,h.tape,h.output,h.size,fun b o B=>h.block b o fun e=>B (d b e)⟩
theorem zG.set (h:zG X a b) (g k:Nat) (v:Value) (o:X g):zG X a (b.setCell ⟨g,k,none⟩ v):=
 ⟨h.os,h.tape,h.output,by simpa using h.size,fun i B d=>(Db b ⟨g,k,none⟩ v i (fun e=>d (by rw [e];exact o))).trans (h.block i B d)⟩
theorem zG.grown {c:World} {r:Option Nat} (h:zG X a b) (d:b.grownBy c r) (D:∀k,r=some k->k<a.heap.size->X k):zG X a c:=
 ⟨d.os.trans h.os,d.tape.trans h.tape,d.output.trans h.output,CU h.size d.size,fun i o B=>(d.block i (Dt o h.size) (fun e=>B (D i e.symm o))).trans (h.block i o B)⟩
theorem zG.blk {t:TypeId} {cs:Array Value} (h:zG X a b) (d:zj a g t cs) (o:¬ X g):zj b g t cs:=(h.block g (za d) o).trans d
end
section
open Go.RowKit Go.Shelf
attribute [local go_sem ↓] Go.wp_at_zero Go.wp_at_succ
theorem elsF_len:∀(f:Nat) (s:Rd) (l:List Int),(AD f s l).2.1.length<=s.1.length
 | 0,s,l=>CS _
 | f+1,s,l=>by
  unfold AD
  split
  ·exact CS _
  ·exact CU (elsF_len f _ _) (intF_len s).1
theorem intsF_len (s:Rd):(Ao s).2.1.length<=s.1.length:=by
 unfold Ao
 split
 ·simp
 ·have h:=elsF_len s.1.tail.length (s.1.tail,false) [];unfold intsE
  split
  ·simp
  ·simp only [List.length_tail] at h⊢;omega
def lv (s:Rd):Nat:=if s.2=true then 0 else s.1.length+1
theorem lv_ok (h:s.2=false):lv s=s.1.length+1:=by unfold lv;rw [h];rfl
theorem lv_dec {t:Rd} (h:t.2=false->t.1.length<s.1.length) (o:s.2=false):lv t<lv s:=by
 rw [lv_ok o];unfold lv
 split
 ·omega
 ·rename_i d
  have:=h (by simpa using d);omega
theorem var_new (h:zn w) {b:Nat} (d:w.heap.size<=b):¬ isVar b:=by
 rintro ⟨n,B,o⟩
 have f:∀cs,w.var? Tryz.prog n=some cs->False:=fun cs h=>by
  unfold World.var? at h;rw [o,Option.bind_some,Array.getElem?_eq_none d] at h;cases h
 rcases B with rfl | rfl | rfl
 ·exact f _ h.tab
 ·obtain ⟨tp,p,h⟩:=h.syn;exact f _ h
 ·obtain ⟨tp,p,h⟩:=h.rng;exact f _ h
mutual
def PT.wt:PT->Nat
 | .node _ s ks=>1+s.length+PT.wtL ks
def PT.wtL:List PT->Nat
 | []=>0
 | k :: ks=>k.wt+PT.wtL ks
end
theorem intF_lv (s:Rd):lv (AE s).2<=lv s - 1:=by
 cases d:s.2 with
 | true=>rw [intF_bad d];simp [lv]
 | false=>have:=lv_dec (intF_len s).2 d;omega
theorem elsF_lv:∀(f:Nat) (s:Rd) (l:List Int),(AD f s l).1.length+lv (AD f s l).2<=l.length+lv s/\((∀x∈l,BO x)->∀x∈(AD f s l).1,BO x)
 | 0,s,l=>⟨CS _,fun h=>h⟩
 | f+1,s,l=>by
  unfold AD
  split
  ·exact ⟨CS _,fun h=>h⟩
  ·rename_i o
   have B:s.2=false:=by
    cases h:s.2 with
    | false=>rfl
    | true=>exact absurd (.inl (by unfold Ad;rw [h];rfl)) o
   obtain ⟨h1,d⟩:=elsF_lv f (AE s).2 (l++[(AE s).1]);have D:=intF_lv s;have E:=lv_ok B;refine ⟨by rw [Da,Dr] at h1;omega,fun h=>d fun x hx=>?_⟩;rcases DF.1 hx with hx | hx
   ·exact h x hx
   ·rw [Dy.1 hx];exact intF_bound s
theorem intsF_lv (s:Rd):(Ao s).1.length+lv (Ao s).2<=lv s/\∀x∈(Ao s).1,BO x:=by
 unfold Ao
 split
 ·exact ⟨by simp [lv],fun x d=>by cases d⟩
 ·rename_i E
  have G:s.2=false:=by
   cases h:s.2 with
   | false=>rfl
   | true=>exact absurd (.inl (by unfold Ad;rw [h];rfl)) E
  obtain ⟨h1,o⟩:=elsF_lv s.1.tail.length (s.1.tail,false) [];have h0:lv (s.1.tail,false)<=lv s:=by rw [lv_ok G];simp [lv]
  unfold intsE
  split
  ·exact ⟨by simp [lv],fun x d=>by cases d⟩
  ·rename_i D
   have B:(AD s.1.tail.length (s.1.tail,false) []).2.2=false:=by
    cases h:(AD s.1.tail.length (s.1.tail,false) []).2.2 with
    | false=>rfl
    | true=>exact absurd (by unfold Ad;rw [h];rfl) D
   have I:lv ((AD s.1.tail.length (s.1.tail,false) []).2.1.tail,false)<=lv (AD s.1.tail.length (s.1.tail,false) []).2:=by rw [lv_ok B];simp [lv]
   refine ⟨?_,o fun x d=>by cases d⟩;simp only [DS,Nat.zero_add] at h1;show (AD s.1.tail.length (s.1.tail,false) []).1.length+lv ((AD s.1.tail.length (s.1.tail,false) []).2.1.tail,false)<=_;omega
end
end Go.Proofs.YtfjjdmpndmbfoaaGreatDoor
