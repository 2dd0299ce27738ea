import Derived.Test.YtjomnbdjajjgfaaGreatDoorWIi
import Derived.KernelRfl
import Derived.Deep.AppendLies
set_option linter.unusedVariables false
set_option linter.unusedSimpArgs false
set_option maxRecDepth 100000
set_option maxHeartbeats 16000000
namespace Go.Proofs.YtjomnbdjajjgfaaGreatDoor
variable {x y z:Int} {acc ch l:List Int} {c g n:Nat} {Y:Nat->Prop} {W w:World}
section
open Go.RowKit
def BJ (m:MZ) (t:Nat) (us acc:List Int) (z:Int):List Int:=if (zi m t z && !decide (z∈us) && !decide (z∈acc))=true then acc++[z] else acc
def growX (m:MZ) (t:Nat) (us S:List Int):List Int:=(S.flatMap (zm m)).foldl (BJ m t us) S
def growN (m:MZ) (t:Nat) (us:List Int):Nat->List Int->List Int
 | 0,S=>S
 | k+1,S=>growN m t us k (growX m t us S)
def start (m:MZ) (f:List Int):List Int:=f.foldl (fun acc x=>if (decide (0<=x) && decide (x<m.n) && !decide (x∈acc))=true then acc++[x] else acc) []
def reachX (m:MZ) (t:Nat) (f us:List Int):List Int:=growN m t us (m.n.toNat+1) (start m f)
section
variable {m:MZ} {t:Nat} {us f:List Int}
structure GK (m:MZ) (t:Nat) (f us S:List Int):Prop where
 nd:S.Nodup
 rg:∀x∈S,0<=x/\x<m.n
 rp:∀x∈S,RP m t f us x
theorem addIf_sub (acc:List Int) (z:Int):∀x∈acc,x∈BJ m t us acc z:=by
 intro x d;unfold BJ
 split
 ·exact List.mem_append_left _ d
 ·exact d
theorem addIf_len (acc:List Int) (z:Int):acc.length<=(BJ m t us acc z).length:=by
 unfold BJ
 split <;> simp
theorem addIf_gk (h:GK m t f us acc) (h0:0<=z/\z<m.n) (h1:zi m t z=true->z∉us->RP m t f us z):GK m t f us (BJ m t us acc z):=by
 unfold BJ
 split
 ·rename_i d
  simp only [Ek,Bool.not_eq_true',Ew] at d;refine ⟨?_,fun x hx=>?_,fun x hx=>?_⟩
  ·rw [List.nodup_append];refine ⟨h.nd,by simp,fun a B b o=>?_⟩;rw [EF] at o;rintro rfl;subst o;exact d.2 B
  ·rcases EN.1 hx with hx | hx
   ·exact h.rg x hx
   ·rw [EF] at hx;subst hx;exact h0
  ·rcases EN.1 hx with hx | hx
   ·exact h.rp x hx
   ·rw [EF] at hx;subst hx;exact h1 d.1.1 d.1.2
 ·exact h
theorem fold_sub:∀(l acc:List Int),∀x∈acc,x∈l.foldl (BJ m t us) acc
 | [],acc,x,d=>d
 | z :: l,acc,x,d=>fold_sub l (BJ m t us acc z) x (addIf_sub acc z x d)
theorem fold_len:∀(l acc:List Int),acc.length<=(l.foldl (BJ m t us) acc).length
 | [],acc=>DY _
 | z :: l,acc=>Ea (addIf_len acc z) (fold_len l _)
theorem fold_gk:∀(l acc:List Int),GK m t f us acc->(∀z∈l,(0<=z/\z<m.n)/\(zi m t z=true->z∉us->RP m t f us z))->GK m t f us (l.foldl (BJ m t us) acc)
 | [],acc,h,_=>h
 | z :: l,acc,h,d=>fold_gk l _ (addIf_gk h (d z (EK ..)).1 (d z (EK ..)).2) (fun x o=>d x (Et _ o))
theorem grow_gk (d:Dim m) {S:List Int} (h:GK m t f us S):GK m t f us (growX m t us S):=by
 refine fold_gk _ _ h fun z E=>?_
 obtain ⟨y,D,B⟩:=List.mem_flatMap.1 E;have o:=h.rg y D;exact ⟨Bz d o.1 o.2 B,fun h1 h2=>(h.rp y D).step B h1 h2⟩
def Closed (m:MZ) (t:Nat) (us S:List Int):Prop:=∀y∈S,∀z∈zm m y,zi m t z=true->z∉us->z∈S
theorem addIf_eq (h:zi m t z=true->z∉us->z∈acc):BJ m t us acc z=acc:=by
 unfold BJ;rw [if_neg];intro d;simp only [Ek,Bool.not_eq_true',Ew] at d;exact d.2 (h d.1.1 d.1.2)
theorem fold_eq:∀(l acc:List Int),(∀z∈l,zi m t z=true->z∉us->z∈acc)->l.foldl (BJ m t us) acc=acc
 | [],acc,_=>rfl
 | z :: l,acc,h=>by
  rw [List.foldl_cons,addIf_eq (h z (EK ..))];exact fold_eq l acc (fun x d=>h x (Et _ d))
theorem grow_closed {S:List Int} (h:Closed m t us S):growX m t us S=S:=
 fold_eq _ _ fun z B=>by
  obtain ⟨y,o,d⟩:=List.mem_flatMap.1 B;exact h y o z d
theorem fold_more:∀(l acc:List Int),(∃z∈l,zi m t z=true/\z∉us/\z∉acc)->acc.length<(l.foldl (BJ m t us) acc).length
 | z :: l,acc,⟨x,hx,h1,h2,h3⟩=>by
  rw [List.foldl_cons];rcases EM.1 hx with rfl | hx
  ·have:(BJ m t us acc x).length=acc.length+1:=by
    unfold BJ;rw [if_pos (by simp [h1,h2,h3])];simp
   have:=fold_len (m:=m) (t:=t) (us:=us) l (BJ m t us acc x);omega
  ·by_cases d:x∈BJ m t us acc z
   ·have o:acc.length<(BJ m t us acc z).length:=by
     unfold BJ at d⊢
     split
     ·simp
     ·rename_i B;rw [if_neg B] at d;exact absurd d h3
    exact EA o (fold_len l _)
   ·exact Nat.lt_of_le_of_lt (addIf_len acc z) (fold_more l _ ⟨x,hx,h1,h2,d⟩)
theorem growN_gk (d:Dim m):∀(k:Nat) {S:List Int},GK m t f us S->GK m t f us (growN m t us k S)
 | 0,S,h=>h
 | k+1,S,h=>growN_gk d k (grow_gk d h)
theorem growN_sub:∀(k:Nat) (S:List Int),∀x∈S,x∈growN m t us k S
 | 0,S,x,d=>d
 | k+1,S,x,d=>growN_sub k _ x (fold_sub _ _ x d)
theorem growN_closed {S:List Int} (h:Closed m t us S):∀k,growN m t us k S=S
 | 0=>rfl
 | k+1=>by unfold growN;rw [grow_closed h];exact growN_closed h k
theorem growN_or:∀(k:Nat) (S:List Int),Closed m t us (growN m t us k S)\/S.length+k<=(growN m t us k S).length
 | 0,S=>.inr (DY _)
 | k+1,S=>by
  by_cases h:Closed m t us S
  ·left
   rw [growN_closed h];exact h
  ·have h1:S.length<(growX m t us S).length:=by
    refine fold_more _ _ ?_;unfold Closed at h;simp only [Classical.not_forall] at h;obtain ⟨y,d,z,o,h1,h2,h3⟩:=h;exact ⟨z,List.mem_flatMap.2 ⟨y,d,o⟩,h1,h2,h3⟩
   rcases growN_or k (growX m t us S) with h2 | h2
   ·exact .inl h2
   ·right
    unfold growN;omega
theorem start_gk (m:MZ) (t:Nat) (us f:List Int):GK m t f us (start m f)/\∀x∈f,0<=x->x<m.n->x∈start m f:=by
 have key:∀(l acc:List Int),(∀x∈l,x∈f)->GK m t f us acc->GK m t f us (l.foldl (fun acc x=>if (decide (0<=x) && decide (x<m.n) && !decide (x∈acc))=true then acc++[x] else acc) acc)/\
   (∀x∈acc,x∈l.foldl (fun acc x=>if (decide (0<=x) && decide (x<m.n) && !decide (x∈acc))=true then acc++[x] else acc) acc)/\∀x∈l,0<=x->x<m.n->x∈l.foldl (fun acc x=>if (decide (0<=x) && decide (x<m.n) && !decide (x∈acc))=true then acc++[x] else acc) acc:=by
  intro l
  induction l with
  | nil=>intro acc _ h;exact ⟨h,fun x hx=>hx,fun x hx=>by cases hx⟩
  | cons z l ih=>
   intro acc o h;rw [List.foldl_cons];by_cases d:(decide (0<=z) && decide (z<m.n) && !decide (z∈acc))=true
   ·rw [if_pos d];simp only [Ek,Bool.not_eq_true',Ew,Ei] at d
    obtain ⟨h1,h2,h3⟩:=ih (acc++[z]) (fun x hx=>o x (Et _ hx)) ⟨by
     rw [List.nodup_append];refine ⟨h.nd,by simp,fun a D b B=>?_⟩;rw [EF] at B;rintro rfl;subst B;exact d.2 D,fun x hx=>by
     rcases EN.1 hx with hx | hx
     ·exact h.rg x hx
     ·rw [EF] at hx;subst hx;exact d.1,fun x hx=>by
     rcases EN.1 hx with hx | hx
     ·exact h.rp x hx
     ·rw [EF] at hx;subst hx;exact RP.base (o x (EK ..)) d.1.1 d.1.2⟩
    refine ⟨h1,fun x hx=>h2 x (List.mem_append_left _ hx),fun x hx a b=>?_⟩;rcases EM.1 hx with rfl | hx
    ·exact h2 x (by simp)
    ·exact h3 x hx a b
   ·rw [if_neg d];obtain ⟨h1,h2,h3⟩:=ih acc (fun x hx=>o x (Et _ hx)) h;refine ⟨h1,h2,fun x hx a b=>?_⟩;rcases EM.1 hx with rfl | hx
    ·refine h2 x ?_;simp only [Ek,Bool.not_eq_true',Ew,Ei] at d;by_cases hm:x∈acc
     ·exact hm
     ·exact absurd ⟨⟨a,b⟩,hm⟩ d
    ·exact h3 x hx a b
 have h:=key f [] (fun _ h=>h) ⟨List.nodup_nil,fun x hx=>absurd hx EU,fun x hx=>absurd hx EU⟩;exact ⟨h.1,h.2.2⟩
theorem mem_reachX (d:Dim m) (x:Int):x∈reachX m t f us↔RP m t f us x:=by
 have D:=start_gk m t us f;have o:=growN_gk (t:=t) (f:=f) (us:=us) d (m.n.toNat+1) D.1
 have E:Closed m t us (reachX m t f us):=by
  rcases growN_or (m:=m) (t:=t) (us:=us) (m.n.toNat+1) (start m f) with h | h
  ·exact h
  ·have:=Bp o.nd m.n o.rg;omega
 constructor
 ·exact fun h=>o.rp x h
 ·intro h;exact h (fun x=>x∈reachX m t f us) (fun y B h0 h1=>growN_sub _ _ y (D.2 y B h0 h1)) (fun y z B G h1 h2=>E y B z G h1 h2)
end
def openTX (m:MZ) (ps:List (List Int)) (us:List Int) (t:Nat):Bool:=((m.tasks.getD t ([],[])).2).any fun x=>decide (x∈reachX m t (Ay m ps us t) us)
def openX (m:MZ) (ch:List Int):Bool:=(List.range (tasksN m (zW m ch))).all fun k=>openTX m (zW m ch) ch ((zW m ch).length - 1+k)
theorem openC_x {m:MZ} (d:Dim m) (ch:List Int):Az m ch=openX m ch:=by
 unfold Az openX openB;congr 1;funext k;unfold CC openTX;congr 1;funext x;rw [decide_eq_decide,mem_reachL d,mem_reachX d]
def aftX (m:MZ) (ch:List Int) (last:Int):Option Int:=(Ba m ch).find? fun n=>decide (last<n) && openX m (ch++[n])
theorem aft_x {m:MZ} (d:Dim m) (ch:List Int) (last:Int):aft m ch last=aftX m ch last:=by
 unfold aft aftX;congr 1;funext n;rw [openC_x d]
def backX (m:MZ) (ch:List Int):Nat->Option (List Int)
 | 0=>none
 | k+1=>match aftX m (ch.take k) (ch.getD k 0) with
  | some n=>some (ch.take k++[n])
  | none=>backX m ch k
theorem back_x {m:MZ} (d:Dim m) (ch:List Int):∀k,backN m ch k=backX m ch k
 | 0=>rfl
 | k+1=>by
  unfold backN backX;rw [aft_x d,back_x d ch k]
  all_goals rfl
def stepX (m:MZ) (ch:List Int):Option (List Int):=
 match aftX m ch (-1) with
 | some n=>some (ch++[n])
 | none=>backX m ch ch.length
theorem step_x {m:MZ} (d:Dim m) (ch:List Int):stepC m ch=stepX m ch:=by
 unfold stepC stepX;rw [aft_x d,back_x d]
 all_goals rfl
def RS.oneX (m:MZ) (s:RS):RS:=match stepX m s.ch with
 | some c=>⟨c,zV m c,s.steps+1⟩
 | none=>⟨[],true,s.steps+1⟩
def RS.runX (m:MZ):Nat->RS->RS
 | 0,s=>s
 | n+1,s=>if s.done=true then s else RS.runX m n (s.oneX m)
theorem run_x {m:MZ} (d:Dim m):∀(n:Nat) (s:RS),RS.run m n s=RS.runX m n s
 | 0,s=>rfl
 | n+1,s=>by
  unfold RS.run RS.runX;rw [run_x d n];unfold RS.one RS.oneX;rw [step_x d]
  all_goals rfl
theorem good_chk {m:MZ} (g:AG m):BM m=0:=by
 have d:=g.dim
 have B:[m.w,m.h,m.l].any side=false:=by
  have h1:=d.w1;have h2:=d.w2;have h3:=d.h1;have D:=d.h2;have E:=d.l1;have G:=d.l2;simp [side];omega
 unfold BM;rw [B,if_neg (by simp),if_neg (by have:=d.n1;have:=g.tk;unfold MZ.n;omega),if_neg,if_neg]
 ·intro h;obtain ⟨t,ht,h1⟩:=EZ.1 h;rw [EY] at h1;rcases h1 with h1 | h1
  ·obtain ⟨x,o,h2⟩:=EZ.1 h1;have:=g.tn t ht x (.inl o);simp [zP] at h2;omega
  ·obtain ⟨x,o,h2⟩:=EZ.1 h1;have:=g.tn t ht x (.inr o);simp [zP] at h2;omega
 ·intro h;rcases h with h | h | h
  ·exact h g.fl
  ·exact h d.up
  ·obtain ⟨f,hf,h2⟩:=EZ.1 h;have:=g.fn f hf;simp at h2;exact h2 this
end
section
open Go.RowKit
attribute [local go_sem ↓] Go.wp_at_zero Go.wp_at_succ
def isChB (m:MZ) (ch:List Int):Bool:=(List.range ch.length).all fun k=>decide (ch.getD k 0∈Ba m (ch.take k))
theorem isCh_of {m:MZ} {ch:List Int} (h:∀k,k<ch.length->ch.getD k 0∈Ba m (ch.take k)):∀k,k<=ch.length->zK m (ch.take k)
 | 0,_=>by simpa using zK.nil
 | k+1,d=>by
  rw [Ef (by omega)];have h1:=h k (by omega);rw [DX,DW (by omega),ED] at h1;exact .snoc (isCh_of h k (by omega)) h1
theorem Bo {m:MZ}:isChB m ch=true↔zK m ch:=by
 unfold isChB;rw [Fa];constructor
 ·intro h;have:=isCh_of (m:=m) (ch:=ch) (fun k d=>of_decide_eq_true (h k (EW.2 d))) ch.length (DY _)
  rwa [Ej] at this
 ·intro h k d;have d:=EW.1 d;rw [Ei,DX,DW d,ED];exact h.at d
noncomputable def loadE (m:MZ) (ch:List Int) (st:Int):Int:=
 if BM m≠0 then BM m else if st<0 then 1 else if (isChB m ch && (decide (ch=[]) || Az m ch))=true then 0 else 51
def loadS (m:MZ) (ch:List Int) (st:Int):RS:=⟨ch,zV m ch || (decide (ch=[]) && decide (0<st)),st⟩
theorem AC.new {wb:World} {X Y ok:Nat->Prop} {p:Nat} {m:MZ} {st:Int} (o:StC wb ok p m []) (d:∀b,ok b->b<wb.heap.size->X b\/Y b) (B:∀b,wb.heap.size<=b->X b) (D:∀b,Y b->b<wb.heap.size):
  AC ((wb.alloc (.cells #[ptrV p] 198)).alloc (.cells #[.slice (some ⟨wb.heap.size,0,none⟩) 1 1,.bool false,.int .i64 st] 202)) X Y (wb.heap.size+1) wb.heap.size 1 m ⟨[],false,st⟩ [p]:=by
 have G:za wb ((wb.alloc (.cells #[ptrV p] 198)).alloc (.cells #[.slice (some ⟨wb.heap.size,0,none⟩) 1 1,.bool false,.int .i64 st] 202)):=((za.refl _).alloc _).alloc _;refine ⟨zl.new _ _ _ (by simp),B _ (by omega),B _ (by omega),by omega,fun h=>by have:=D _ h;omega,fun h=>by have:=D _ h;omega,?_,rfl,?_⟩
 ·exact ⟨rfl,.inr ⟨wb.heap.size,1,#[ptrV p],rfl,Em _,(zl.new wb _ _ rfl).alloc _,DY _,by unfold maxLen;omega,rfl,rfl⟩⟩
 ·intro k p' hp
  match k,hp with
  | 0,hp=>
   have:p=p':=by simpa using hp
   subst this;refine (o.bound.ext G).weaken fun b E=>?_
   rcases d b E.1 E.2 with h | h
   ·exact .inl ⟨h,by omega,by omega⟩
   ·exact .inr h
def Cw (w:World) (Y:Nat->Prop) (m:MZ) (ch:List Int) (st:Int) (e:Ending) (w':World):Prop:=
 ∃v,e=.returned (.tuple #[v,.int .i64 (loadE m ch st)])/\za w w'/\
  ((loadE m ch st≠0/\v=.pointer none)\/(loadE m ch st=0/\AG m/\zK m ch/\∃g gr cap pt,v=ptrV g/\AC w' (fun b=>w.heap.size<=b) Y g gr cap m (loadS m ch st) pt))
structure LR (w wr:World) (Y:Nat->Prop) (g gr cap:Nat) (m:MZ) (ch:List Int) (st:Int) (k:Nat) (pt:List Nat):Prop where
 rt:AC wr (fun b=>w.heap.size<=b) Y g gr cap m ⟨ch.take k,false,st⟩ pt
 ext:za w wr
 ch:zK m (ch.take k)
theorem load_fin {w9:World} {gr cap:Nat} {m:MZ} {st:Int} {pt:List Nat} {d:Bool} {c:List Int} (h:AC w9 (fun b=>w.heap.size<=b) Y g gr cap m ⟨c,false,st⟩ pt) (D:za w w9) (E:c=ch) (B:zK m ch) (I:AG m) (o:loadE m ch st=0) (G:d=(loadS m ch st).done):
  Cw w Y m ch st (.returned (.tuple #[.pointer (some ⟨g,0,none⟩),.int .i64 0])) (w9.setCell ⟨g,1,none⟩ (.bool d)):=by
 subst E;refine ⟨.pointer (some ⟨g,0,none⟩),by rw [o],D.setCell (p:=⟨g,1,none⟩) h.xg _,.inr ⟨o,I,B,g,gr,cap,pt,rfl,?_⟩⟩;have:=h.done d;rw [G] at this⊢;exact this
theorem load_calls {okc:Nat->Prop} {v vc:Value} {m:MZ} (st:Int) (w:World) (hm:zY w Y v m) (hl:Lens m) (i1:zk w okc vc ch) (l9:ch.length<=20000000000000) (h9:∀b,Y b->b<w.heap.size):
  Calls Tryz.prog 80 #[v,vc,.int .i64 st] w (Cw w Y m ch st):=by
 have i4:=hm;obtain ⟨vfr,vup,vts,rfl,_,_,k5⟩:=hm;have h7:=zh i4;clear i4 k5;have k8:=zh i1;obtain ⟨Ac,cc,rfl,l8,i6⟩:=i1;have j2:=zh i6;clear i6;have HL:=zh hl;clear hl;have e0:=zh h9;clear h9;obtain ⟨MV,j4⟩:=Fd (Value.agg #[.int .i64 m.w,.int .i64 m.h,.int .i64 m.l,vfr,vup,vts]);obtain ⟨ck,i2⟩:=Fd (BM m);have d6:=zh i2;clear i2;obtain ⟨i0,hi,i9,f5,e9⟩:=info_parts Tryz.infoPst;have IF:=zh hi;have IZ0:=zh i9;have IZ1:=zh f5;have IZ2:=zh e9;clear hi i9 f5 e9 j4
 go_enter Tryz.func80,Tryz.ntmps80
 go_wp2_with fail
 generalize h4:w.alloc (.cells #[.int .i64 m.w,.int .i64 m.h,.int .i64 m.l,vfr,vup,vts] 32)=w1;have g3:za w w1:=by rw [<-h4];exact (za.refl w).alloc _
 have i3:zl w1 w.heap.size 32 #[.int .i64 m.w,.int .i64 m.h,.int .i64 m.l,vfr,vup,vts]:=by rw [<-h4];exact EL _ _
 clear h4;obtain ⟨m0,m1,m2,m3,m4,m5⟩:=zt i3;have c0:=za.rule m0;have c1:=za.rule m1;have c2:=za.rule m2;have c3:=za.rule m3;have c4:=za.rule m4;have c5:=za.rule m5;clear m0 m1 m2 m3 m4 m5 i3;refine (De w1 (h7.out.below g3) HL.out).mono ?_;rintro e w2 ⟨rfl,f4⟩;have f4:za w1 w2:=f4;have c9:za w w2:=g3.trans f4;rw [<-d6.out];by_cases h0:ck=0
 case neg=>
  have m6:(ck==0)=false:=by rw [El];exact h0
  have m7:(ck != 0)=true:=by rw [bne_iff_ne];exact h0
  have a0:loadE m ch st=ck:=by unfold loadE;rw [<-d6.out,if_pos h0]
  have Q:Cw w Y m ch st (.returned (.tuple #[.pointer none,.int .i64 ck])) w2:=⟨.pointer none,by rw [a0],c9,.inl ⟨by rw [a0];exact h0,rfl⟩⟩;have I:=zh Q;clear Q a0 h0
  go_wp2_with fail
  go_ret2
  exact I.out
 case pos=>
  subst h0;have HG:=zh (AG.of d6.out.symm);by_cases f3:st<0
  ·have a0:loadE m ch st=1:=by unfold loadE;rw [<-d6.out,if_neg (by simp),if_pos f3]
   have Q:Cw w Y m ch st (.returned (.tuple #[.pointer none,.int .i64 1])) w2:=⟨.pointer none,by rw [a0],c9,.inl ⟨by rw [a0];decide,rfl⟩⟩;have I:=zh Q;clear Q a0
   go_wp2_with fail
   go_ret2
   exact I.out
  ·have l4:0<=st:=by omega
   have m8:decide (st<0)=false:=Ec f3
   have d8:Hid (loadE m ch st=if (isChB m ch && (decide (ch=[]) || Az m ch))=true then 0 else 51):=by
    show loadE m ch st=_;unfold loadE;rw [<-d6.out,if_neg (by simp),if_neg f3]
   clear f3
   go_wp2_with fail
   refine (begin_c w2 (h7.out.below c9) (by have:=HG.out.tk;omega)).mono ?_;rintro e w3 ⟨p,rfl,i8,f8⟩;have g0:za w w3:=c9.trans i8
   have H0:Hid (LR w ((w3.alloc (.cells #[ptrV p] 198)).alloc (.cells #[.slice (some ⟨w3.heap.size,0,none⟩) 1 1,.bool false,.int .i64 st] 202)) Y (w3.heap.size+1) w3.heap.size 1 m ch st 0 [p]):=by
    have hz:=g0.size;have e9:=c9.size;refine ⟨?_,(g0.alloc _).alloc _,by simpa using zK.nil⟩
    have:=AC.new (X:=fun b=>w.heap.size<=b) (Y:=Y) (st:=st) f8 (fun b hb _=>by
     rcases hb with hb | hb
     ·exact .inr hb
     ·exact .inl (by omega)) (fun b hb=>by omega) (fun b hb=>by have:=e0.out b hb;omega)
    simpa using this
   clear f8
   go_wp2_with fail
   generalize i7:(w3.alloc (.cells #[.pointer (some ⟨p,0,none⟩)] 198)).alloc (.cells #[.slice (some ⟨w3.heap.size,0,none⟩) 1 1,.bool false,.int .i64 st] 202)=w4;have H0:Hid (LR w w4 Y (w3.heap.size+1) w3.heap.size 1 m ch st 0 [p]):=by rw [<-i7];exact H0
   clear i7;generalize w3.heap.size+1=g at*;generalize w3.heap.size=gr0 at*;clear c0 c1 c2 c3 c4 c5 i8 g0 c9 f4 g3
   go_loopg [27] ch.length (fun gk v wr=>∃(k gr cap:Nat) (pt:List Nat),v=.int .i64 k/\k<=ch.length/\gk=ch.length - k/\Hid (LR w wr Y g gr cap m ch st k pt))
   case atStart=>exact ⟨0,gr0,1,[p],rfl,Em _,rfl,H0⟩
   clear H0
   case round=>
    obtain ⟨k,gr,cap,pt,rfl,hk,rfl,hR⟩:=hrel;have G:=hR.out.ext;have d5:=hR.out.rt;obtain ⟨p2,g8,e7,_⟩:=d5.row.last;dsimp only at g8 e7;have j8:(ch.take k).length=k:=by rw [EQ];omega
    have g6:=hR.out.ch.len300 HG.out;rw [j8] at g6;have c8:Hid (∀W,za wr W->Calls Tryz.prog 147 #[.pointer (some ⟨g,0,none⟩)] W fun e w'=>e=.returned (.pointer (some ⟨p2,0,none⟩))/\z8 W w'):=fun W hE=>last_c (w':=W) (d5.ext hE) g8 (by dsimp only;omega)
    have a5:=zh e7;have rg0:∀W,za wr W->W.cell? ⟨g,0,none⟩=some (.slice (some ⟨gr,0,none⟩) pt.length cap):=za.rule (d5.blk.cell (k:=0) rfl);have l0:=BE d5.row.1;have l3:pt.length<=400:=by have:=d5.row.2.1;dsimp only at this;omega
    clear d5 g8 e7;rcases Ev k ch.length with a8 | hge
    ·obtain ⟨bc,oc,rfl,_,b5⟩:=AH j2.out a8 a8;obtain ⟨n,hn⟩:=Fd (ch[k]);rw [<-hn] at b5;have q0:=za.rule b5;have HN:=zh hn;clear b5 hn
     go_wp2_with fail
     refine (c8.out wr (za.refl _)).mono ?_;rintro e w5 ⟨rfl,e4⟩;have b8:za wr w5:=e4.below _;clear e4
     go_wp2_with fail
     refine (candidates_c w5 (a5.out.ext b8) HG.out HL.out hR.out.ch).mono ?_;rintro e w6 ⟨v6,rfl,hM⟩;have a9:za wr w6:=b8.trans hM.ext;have HM:=zh hM.ints;clear hM b8
     go_wp2_with fail
     refine (CW n w6 HM.out (by have:=cand_len HL.out (ch.take k);omega)).mono ?_;rintro e w7 ⟨rfl,rfl⟩;by_cases d4:n∈Ba m (ch.take k)
     ·rw [Eb d4];have b2:=zh d4;clear d4;have a7:Hid (ch.take k++[n]=ch.take (k+1)):=by show _=_;rw [Ef a8,HN.out]
      go_wp2_with fail
      refine Eo (S:=fun _=>True) AI trivial fun zH=>?_;have e3:za wr w6.drew:=a9.drew;refine z6 0 zH ?_;refine z6 1 zH ?_;simp only [zd,DV];refine z6 2 zH ?_;refine z6 3 zH ?_;simp only [zd,DV];refine z6 5 zH ?_;refine z6 7 zH ?_;simp only [zd,DV];refine rdA [4,6] ?_;refine Ez rfl (fun K o=>?_) ?_
      ·skip
       have hx:=e3;go_simp;clear hx;refine Fe o trivial fun zH=>?_;clear o K;try simp only [zd,DV]
       refine AB 6 fun K o=>?_
       skip
       go_simp;go_at_call 147;refine (c8.out _ e3).mono ?_;rintro e wa2 ⟨rfl,j6⟩;have g1:za wr wa2:=e3.trans (j6.below _);go_simp;refine Fe o trivial fun zH=>?_;clear o K;try simp only [zd,DV]
       refine AB 8 fun K o=>?_
       skip
       go_simp;go_at_call 149;refine (with_c _ (a5.out.ext g1) HG.out HL.out hR.out.ch b2.out).mono ?_;rintro e wa3 ⟨q,rfl,b0,hq⟩;have HQ:=zh (push_ok (g:=g) (gr:=gr) hq g1 hR.out.rt (fun b hb=>Ea G.size hb));clear hq;have e1:za wr wa3:=g1.trans b0;clear b0;go_simp;refine Fe o trivial fun zH=>?_;clear o K;try simp only [zd,DV]
       refine AB 9 fun K o=>?_
       skip
       go_simp;refine Fe o trivial fun zH=>?_;clear o K;try simp only [zd,DV]
       refine AB 10 fun K o=>?_
       skip
       have J:=hR.out.rt.ext e1;have E:=zh J;have a2:wa3.cell? ⟨g,0,none⟩=some (.slice (some ⟨gr,0,none⟩) pt.length cap):=J.blk.cell (k:=0) rfl;have a3:wa3.frozen? ⟨g,0,none⟩=false:=J.blk.frozen 0;clear J;refine step_append_lies (P:=Tryz.prog) _ (by rfl) _ _ 200 (by rfl) 0 198 i0 (.pointer none) 1 8 Tryz.underlying200 IF.out IZ0.out IZ1.out IZ2.out rfl (by decide) (.slice (some ⟨gr,0,none⟩) pt.length cap) pt.length _ (by rfl) (E.out.row.1.alloc _) ⟨wa3.heap.size,0,none⟩ 1 1 [ptrV q] (by rfl) rfl (cell_one_new _ _ _) (by simp [ptrV,Value.oneCell']) (by decide) (by unfold maxLen;omega) (by omega) (Em _) (wa3.heap.size+1) (by simp) ?_;intro g5 c5 w9 U hg hv _;obtain ⟨gr',cap',g9,B,O⟩:=E.out.push HQ.out (fun b hb=>Ea G.size (Ea e1.size hb)) (fun b hb=>EA (e0.out b hb) (Ea G.size e1.size)) U hg (by rcases hv with hv | hv;exact .inl hv.symm;exact .inr (congrArg some hv));have D:w9.heap[g]?=wa3.heap[g]?:=(hg.block g (by have:=zc E.out.blk;simp;omega) (fun e=>E.out.ne (by injection e))).trans (Er _ _ _ (zc E.out.blk));have e2:w9.cell? ⟨g,0,none⟩=some (.slice (some ⟨gr,0,none⟩) pt.length cap):=(En D).trans a2;have e6:w9.frozen? ⟨g,0,none⟩=false:=(Ex (a:=⟨g,0,none⟩) D).trans a3;have b1:Hid (za w (w9.setCell ⟨g,0,none⟩ (.slice (some ⟨g5,0,none⟩) (pt.length+1) c5))):=Below.trans (G.trans e1) (O.below (Ea G.size e1.size) (fun b hb=>hb));have a1:=zh B;clear U hg hv B O D a2 a3;refine Fe o trivial fun zH=>?_;clear o K;try simp only [zd,DV]
       refine AB 11 fun K o=>?_
       skip
       go_simp;refine Fe o trivial fun zH=>?_;clear o K;try simp only [zd,DV]
       refine AB 12 fun K o=>?_
       skip
       go_simp;refine Fe o trivial fun zH=>?_;clear o K;try simp only [zd,DV]
       refine AB 13 fun K o=>?_
       skip
       go_simp;refine Fe o trivial fun zH=>?_;clear o K;try simp only [zd,DV]
       refine EC (by kernel_rfl) ?_ _
       go_wp2_with fail
       go_roundg (ch.length - (k+1))
       case measure=>omega
       case rel=>exact ⟨k+1,_,_,_,by go_num,a8,rfl,⟨by have:=a1.out;rwa [a7.out] at this,b1.out,by rw [<-a7.out];exact .snoc hR.out.ch b2.out⟩⟩
      refine Ez rfl (fun K o=>?_) .nil
      skip
      go_simp;go_at_call 147;refine (c8.out _ e3).mono ?_;rintro e wa9 ⟨rfl,b6⟩;have b3:za wr wa9:=e3.trans (b6.below _);go_simp;refine Fe o trivial fun zH=>?_;clear o K;try simp only [zd,DV]
      refine rdA [4,8] ?_;refine Ez rfl (fun K o=>?_) ?_
      ·skip
       have hx:=b3;go_simp;clear hx;refine Fe o trivial fun zH=>?_;clear o K;try simp only [zd,DV]
       refine AB 8 fun K o=>?_
       skip
       go_simp;go_at_call 149;refine (with_c _ (a5.out.ext b3) HG.out HL.out hR.out.ch b2.out).mono ?_;rintro e wa11 ⟨q,rfl,b0,hq⟩;have HQ:=zh (push_ok (g:=g) (gr:=gr) hq b3 hR.out.rt (fun b hb=>Ea G.size hb));clear hq;have a6:za wr wa11:=b3.trans b0;clear b0;go_simp;refine Fe o trivial fun zH=>?_;clear o K;try simp only [zd,DV]
       refine AB 9 fun K o=>?_
       skip
       go_simp;refine Fe o trivial fun zH=>?_;clear o K;try simp only [zd,DV]
       refine AB 10 fun K o=>?_
       skip
       have J:=hR.out.rt.ext a6;have E:=zh J;have a2:wa11.cell? ⟨g,0,none⟩=some (.slice (some ⟨gr,0,none⟩) pt.length cap):=J.blk.cell (k:=0) rfl;have a3:wa11.frozen? ⟨g,0,none⟩=false:=J.blk.frozen 0;clear J;refine step_append_lies (P:=Tryz.prog) _ (by rfl) _ _ 200 (by rfl) 0 198 i0 (.pointer none) 1 8 Tryz.underlying200 IF.out IZ0.out IZ1.out IZ2.out rfl (by decide) (.slice (some ⟨gr,0,none⟩) pt.length cap) pt.length _ (by rfl) (E.out.row.1.alloc _) ⟨wa11.heap.size,0,none⟩ 1 1 [ptrV q] (by rfl) rfl (cell_one_new _ _ _) (by simp [ptrV,Value.oneCell']) (by decide) (by unfold maxLen;omega) (by omega) (Em _) (wa11.heap.size+1) (by simp) ?_;intro g5 c5 w9 U hg hv _;obtain ⟨gr',cap',g9,B,O⟩:=E.out.push HQ.out (fun b hb=>Ea G.size (Ea a6.size hb)) (fun b hb=>EA (e0.out b hb) (Ea G.size a6.size)) U hg (by rcases hv with hv | hv;exact .inl hv.symm;exact .inr (congrArg some hv));have D:w9.heap[g]?=wa11.heap[g]?:=(hg.block g (by have:=zc E.out.blk;simp;omega) (fun e=>E.out.ne (by injection e))).trans (Er _ _ _ (zc E.out.blk));have e2:w9.cell? ⟨g,0,none⟩=some (.slice (some ⟨gr,0,none⟩) pt.length cap):=(En D).trans a2;have e6:w9.frozen? ⟨g,0,none⟩=false:=(Ex (a:=⟨g,0,none⟩) D).trans a3;have b1:Hid (za w (w9.setCell ⟨g,0,none⟩ (.slice (some ⟨g5,0,none⟩) (pt.length+1) c5))):=Below.trans (G.trans a6) (O.below (Ea G.size a6.size) (fun b hb=>hb));have a1:=zh B;clear U hg hv B O D a2 a3;refine Fe o trivial fun zH=>?_;clear o K;try simp only [zd,DV]
       refine AB 11 fun K o=>?_
       skip
       go_simp;refine Fe o trivial fun zH=>?_;clear o K;try simp only [zd,DV]
       refine AB 12 fun K o=>?_
       skip
       go_simp;refine Fe o trivial fun zH=>?_;clear o K;try simp only [zd,DV]
       refine AB 13 fun K o=>?_
       skip
       go_simp;refine Fe o trivial fun zH=>?_;clear o K;try simp only [zd,DV]
       refine EC (by kernel_rfl) ?_ _
       go_wp2_with fail
       go_roundg (ch.length - (k+1))
       case measure=>omega
       case rel=>exact ⟨k+1,_,_,_,by go_num,a8,rfl,⟨by have:=a1.out;rwa [a7.out] at this,b1.out,by rw [<-a7.out];exact .snoc hR.out.ch b2.out⟩⟩
      refine Ez rfl (fun K o=>?_) .nil
      skip
      go_simp;go_at_call 149;refine (with_c _ (a5.out.ext b3) HG.out HL.out hR.out.ch b2.out).mono ?_;rintro e wa17 ⟨q,rfl,b0,hq⟩;have HQ:=zh (push_ok (g:=g) (gr:=gr) hq b3 hR.out.rt (fun b hb=>Ea G.size hb));clear hq;have M:za wr wa17:=b3.trans b0;clear b0;go_simp;refine Fe o trivial fun zH=>?_;clear o K;try simp only [zd,DV]
      refine rdA [4,9] ?_;refine Ez rfl (fun K o=>?_) ?_
      ·skip
       have hx:=M;go_simp;clear hx;refine Fe o trivial fun zH=>?_;clear o K;try simp only [zd,DV]
       refine AB 9 fun K o=>?_
       skip
       go_simp;refine Fe o trivial fun zH=>?_;clear o K;try simp only [zd,DV]
       refine AB 10 fun K o=>?_
       skip
       have J:=hR.out.rt.ext M;have E:=zh J;have a2:wa17.cell? ⟨g,0,none⟩=some (.slice (some ⟨gr,0,none⟩) pt.length cap):=J.blk.cell (k:=0) rfl;have a3:wa17.frozen? ⟨g,0,none⟩=false:=J.blk.frozen 0;clear J;refine step_append_lies (P:=Tryz.prog) _ (by rfl) _ _ 200 (by rfl) 0 198 i0 (.pointer none) 1 8 Tryz.underlying200 IF.out IZ0.out IZ1.out IZ2.out rfl (by decide) (.slice (some ⟨gr,0,none⟩) pt.length cap) pt.length _ (by rfl) (E.out.row.1.alloc _) ⟨wa17.heap.size,0,none⟩ 1 1 [ptrV q] (by rfl) rfl (cell_one_new _ _ _) (by simp [ptrV,Value.oneCell']) (by decide) (by unfold maxLen;omega) (by omega) (Em _) (wa17.heap.size+1) (by simp) ?_;intro g5 c5 w9 U hg hv _;obtain ⟨gr',cap',g9,B,O⟩:=E.out.push HQ.out (fun b hb=>Ea G.size (Ea M.size hb)) (fun b hb=>EA (e0.out b hb) (Ea G.size M.size)) U hg (by rcases hv with hv | hv;exact .inl hv.symm;exact .inr (congrArg some hv));have D:w9.heap[g]?=wa17.heap[g]?:=(hg.block g (by have:=zc E.out.blk;simp;omega) (fun e=>E.out.ne (by injection e))).trans (Er _ _ _ (zc E.out.blk));have e2:w9.cell? ⟨g,0,none⟩=some (.slice (some ⟨gr,0,none⟩) pt.length cap):=(En D).trans a2;have e6:w9.frozen? ⟨g,0,none⟩=false:=(Ex (a:=⟨g,0,none⟩) D).trans a3;have b1:Hid (za w (w9.setCell ⟨g,0,none⟩ (.slice (some ⟨g5,0,none⟩) (pt.length+1) c5))):=Below.trans (G.trans M) (O.below (Ea G.size M.size) (fun b hb=>hb));have a1:=zh B;clear U hg hv B O D a2 a3;refine Fe o trivial fun zH=>?_;clear o K;try simp only [zd,DV]
       refine AB 11 fun K o=>?_
       skip
       go_simp;refine Fe o trivial fun zH=>?_;clear o K;try simp only [zd,DV]
       refine AB 12 fun K o=>?_
       skip
       go_simp;refine Fe o trivial fun zH=>?_;clear o K;try simp only [zd,DV]
       refine AB 13 fun K o=>?_
       skip
       go_simp;refine Fe o trivial fun zH=>?_;clear o K;try simp only [zd,DV]
       refine EC (by kernel_rfl) ?_ _
       go_wp2_with fail
       go_roundg (ch.length - (k+1))
       case measure=>omega
       case rel=>exact ⟨k+1,_,_,_,by go_num,a8,rfl,⟨by have:=a1.out;rwa [a7.out] at this,b1.out,by rw [<-a7.out];exact .snoc hR.out.ch b2.out⟩⟩
      refine Ez rfl (fun K o=>?_) .nil
      skip
      go_simp;refine Fe o trivial fun zH=>?_;clear o K;try simp only [zd,DV]
      refine AB 4 fun K o=>?_
      skip
      have hx:=(M.alloc (.cells #[.pointer (some ⟨q,0,none⟩)] 198));go_simp;clear hx;refine Fe o trivial fun zH=>?_;clear o K;try simp only [zd,DV]
      refine AB 10 fun K o=>?_
      skip
      have J:=hR.out.rt.ext M;have E:=zh J;have a2:wa17.cell? ⟨g,0,none⟩=some (.slice (some ⟨gr,0,none⟩) pt.length cap):=J.blk.cell (k:=0) rfl;have a3:wa17.frozen? ⟨g,0,none⟩=false:=J.blk.frozen 0;clear J;refine step_append_lies (P:=Tryz.prog) _ (by rfl) _ _ 200 (by rfl) 0 198 i0 (.pointer none) 1 8 Tryz.underlying200 IF.out IZ0.out IZ1.out IZ2.out rfl (by decide) (.slice (some ⟨gr,0,none⟩) pt.length cap) pt.length _ (by rfl) (E.out.row.1.alloc _) ⟨wa17.heap.size,0,none⟩ 1 1 [ptrV q] (by rfl) rfl (cell_one_new _ _ _) (by simp [ptrV,Value.oneCell']) (by decide) (by unfold maxLen;omega) (by omega) (Em _) (wa17.heap.size+1) (by simp) ?_;intro g5 c5 w9 U hg hv _;obtain ⟨gr',cap',g9,B,O⟩:=E.out.push HQ.out (fun b hb=>Ea G.size (Ea M.size hb)) (fun b hb=>EA (e0.out b hb) (Ea G.size M.size)) U hg (by rcases hv with hv | hv;exact .inl hv.symm;exact .inr (congrArg some hv));have D:w9.heap[g]?=wa17.heap[g]?:=(hg.block g (by have:=zc E.out.blk;simp;omega) (fun e=>E.out.ne (by injection e))).trans (Er _ _ _ (zc E.out.blk));have e2:w9.cell? ⟨g,0,none⟩=some (.slice (some ⟨gr,0,none⟩) pt.length cap):=(En D).trans a2;have e6:w9.frozen? ⟨g,0,none⟩=false:=(Ex (a:=⟨g,0,none⟩) D).trans a3;have b1:Hid (za w (w9.setCell ⟨g,0,none⟩ (.slice (some ⟨g5,0,none⟩) (pt.length+1) c5))):=Below.trans (G.trans M) (O.below (Ea G.size M.size) (fun b hb=>hb));have a1:=zh B;clear U hg hv B O D a2 a3;refine Fe o trivial fun zH=>?_;clear o K;try simp only [zd,DV]
      refine AB 11 fun K o=>?_
      skip
      go_simp;refine Fe o trivial fun zH=>?_;clear o K;try simp only [zd,DV]
      refine AB 12 fun K o=>?_
      skip
      go_simp;refine Fe o trivial fun zH=>?_;clear o K;try simp only [zd,DV]
      refine AB 13 fun K o=>?_
      skip
      go_simp;refine Fe o trivial fun zH=>?_;clear o K;try simp only [zd,DV]
      refine EC (by kernel_rfl) ?_ _
      go_wp2_with fail
      go_roundg (ch.length - (k+1))
      case measure=>omega
      case rel=>exact ⟨k+1,_,_,_,by go_num,a8,rfl,⟨by have:=a1.out;rwa [a7.out] at this,b1.out,by rw [<-a7.out];exact .snoc hR.out.ch b2.out⟩⟩
     ·rw [Ec d4]
      have a0:loadE m ch st=51:=by
       rw [d8.out]
       have:isChB m ch=false:=by
        rw [Bool.eq_false_iff];intro h;have h1:=(Bo.1 h).at a8;rw [<-HN.out] at h1;exact d4 h1
       rw [this];rfl
      have Q:Cw w Y m ch st (.returned (.tuple #[.pointer none,.int .i64 51])) w6:=⟨.pointer none,by rw [a0],G.trans a9,.inl ⟨by rw [a0];decide,rfl⟩⟩;have I:=zh Q;clear Q a0 d4
      go_wp2_with fail
      go_ret2
      exact I.out
    ·have j7:k=ch.length:=by omega
     subst j7;have f1:Hid (ch.take ch.length=ch):=Ej;have c7:Hid (zK m ch):=by have:=hR.out.ch;rwa [f1.out] at this
     have g4:isChB m ch=true:=Bo.2 c7.out;rw [g4] at d8;have l5:=zh g4;clear g4;rw [f1.out] at a5;by_cases V:ch=[]
     ·have f5:decide ((0:Int)<(ch.length:Int))=false:=by rw [V];rfl
      have e9:((ch.length:Int)==0)=true:=by rw [V];rfl
      have k6:decide (0<ch.length)=false:=by rw [V];rfl
      have k7:decide (ch.length=0)=true:=by rw [V];rfl
      have f6:=zh V;have d9:Hid (loadE m ch st=0):=by show _=_;rw [d8.out,Eb V];rfl
      clear V
      go_wp2_with fail
      refine (c8.out wr (za.refl _)).mono ?_;rintro e w8 ⟨rfl,e5⟩;have b9:za wr w8:=za.trans (za.refl _) (e5.below _);clear e5
      go_wp2_with fail
      refine (Dr w8 (a5.out.ext b9) HG.out HL.out c7.out).mono ?_;rintro e w9 ⟨rfl,b6⟩;have e8:za wr w9:=b9.trans (b6.below _);clear b6 b9;obtain ⟨cb,b4⟩:=Fd (zV m ch);rw [<-b4];have c6:=zh b4;clear b4;have B:=hR.out.rt.ext e8;have e2:w9.cell? ⟨g,1,none⟩=some (.bool false):=B.blk.cell (k:=1) rfl;have e6:w9.frozen? ⟨g,1,none⟩=false:=B.blk.frozen 1;have I:Hid (∀d,d=(loadS m ch st).done->Cw w Y m ch st (.returned (.tuple #[.pointer (some ⟨g,0,none⟩),.int .i64 0])) (w9.setCell ⟨g,1,none⟩ (.bool d))):=fun d hd=>load_fin B (G.trans e8) f1.out c7.out HG.out d9.out hd
      clear B
      cases cb with
      | true=>
       go_wp2_with fail
       go_ret2
       exact I.out true (by unfold loadS;rw [<-c6.out];rfl)
      | false=>
       by_cases f2:0<st
       ·have k4:decide (0<st)=true:=Eb f2
        go_wp2_with fail
        go_ret2
        exact I.out true (by unfold loadS;rw [<-c6.out,f6.out];simp [f2])
       ·have k4:decide (0<st)=false:=Ec f2
        go_wp2_with fail
        go_ret2
        exact I.out false (by unfold loadS;rw [<-c6.out,f6.out];simp [f2])
     ·have i5:0<ch.length:=List.length_pos_iff.2 V;have f5:decide ((0:Int)<(ch.length:Int))=true:=Eb (by omega);have e9:((ch.length:Int)==0)=false:=by rw [El];omega
      have k6:decide (0<ch.length)=true:=Eb i5;have k7:decide (ch.length=0)=false:=Ec (by omega);have f9:=zh V;clear V
      go_wp2_with fail
      refine (c8.out wr (za.refl _)).mono ?_;rintro e w5 ⟨rfl,e4⟩;have b8:za wr w5:=e4.below _;clear e4
      go_wp2_with fail
      refine (open_c w5 (a5.out.ext b8) HG.out HL.out c7.out).mono ?_;rintro e w6 ⟨rfl,a9⟩;have a9:za wr w6:=b8.trans a9;clear b8;obtain ⟨ob,g7⟩:=Fd (Az m ch);rw [<-g7];have h8:=zh g7;clear g7
      cases ob with
      | false=>
       have a0:loadE m ch st=51:=by rw [d8.out,Ec f9.out,<-h8.out];rfl
       have Q:Cw w Y m ch st (.returned (.tuple #[.pointer none,.int .i64 51])) w6:=⟨.pointer none,by rw [a0],G.trans a9,.inl ⟨by rw [a0];decide,rfl⟩⟩;have I:=zh Q;clear Q a0
       go_wp2_with fail
       go_ret2
       exact I.out
      | true=>
       have d9:Hid (loadE m ch st=0):=by show _=_;rw [d8.out,Ec f9.out,<-h8.out];rfl
       go_wp2_with fail
       refine (c8.out w6 a9).mono ?_;rintro e w8 ⟨rfl,e5⟩;have b9:za wr w8:=za.trans a9 (e5.below _);clear e5
       go_wp2_with fail
       refine (Dr w8 (a5.out.ext b9) HG.out HL.out c7.out).mono ?_;rintro e w9 ⟨rfl,b6⟩;have e8:za wr w9:=b9.trans (b6.below _);clear b6 b9;obtain ⟨cb,b4⟩:=Fd (zV m ch);rw [<-b4];have c6:=zh b4;clear b4;have B:=hR.out.rt.ext e8;have e2:w9.cell? ⟨g,1,none⟩=some (.bool false):=B.blk.cell (k:=1) rfl;have e6:w9.frozen? ⟨g,1,none⟩=false:=B.blk.frozen 1;have I:Hid (∀d,d=(loadS m ch st).done->Cw w Y m ch st (.returned (.tuple #[.pointer (some ⟨g,0,none⟩),.int .i64 0])) (w9.setCell ⟨g,1,none⟩ (.bool d))):=fun d hd=>load_fin B (G.trans e8) f1.out c7.out HG.out d9.out hd
       clear B
       cases cb with
       | true=>
        go_wp2_with fail
        go_ret2
        exact I.out true (by unfold loadS;rw [<-c6.out];rfl)
       | false=>
        go_wp2_with fail
        go_ret2
        exact I.out false (by unfold loadS;rw [<-c6.out];simp [f9.out])
def okC (m:MZ) (ch:List Int):Bool:=decide (BM m=0) && isChB m ch
theorem okC_true {m:MZ} (h:okC m ch=true):AG m/\zK m ch:=by
 unfold okC at h;rw [Ek,Ei] at h;exact ⟨AG.of h.1,Bo.1 h.2⟩
def candO (m:MZ) (ch:List Int):List Int:=if okC m ch=true then Ba m ch else []
noncomputable def openO (m:MZ) (ch:List Int):Bool:=okC m ch && Az m ch
end
section
open Go.RowKit
def Aj (m:MZ) (ch:List Int):List (List Int):=zW m ch++(if zV m ch=true then [[]] else [])
theorem CD {m:MZ} (h:zV m ch=false):Aj m ch=zW m ch:=by unfold Aj;rw [h];simp
theorem splitL_cmp {m:MZ} (h:zV m ch=true):Aj m ch=zW m ch++[[]]:=by unfold Aj;rw [h];simp
theorem finB_snoc {m:MZ} {qs:List (List Int)} {p:List Int}:finB m (qs++[p++[x]])=decide (x∈(m.tasks.getD qs.length ([],[])).2):=by
 unfold finB;rw [Eg,Ey,Nat.add_sub_cancel];have:(qs++[p++[x]]).getD qs.length []=p++[x]:=by simp [DX]
 rw [this];simp
theorem finB_nil {m:MZ} {qs:List (List Int)}:finB m (qs++[[]])=false:=by
 unfold finB;rw [Eg,Ey,Nat.add_sub_cancel];have:(qs++[([]:List Int)]).getD qs.length []=[]:=by simp [DX]
 rw [this];rfl
theorem addN_snoc {qs:List (List Int)} {p:List Int}:Ca (qs++[p]) x=qs++[p++[x]]:=by
 unfold Ca;rw [Eg,Ey,Nat.add_sub_cancel,List.set_append_right _ _ (DY _)];simp
theorem split_step {m:MZ} {qs:List (List Int)} {p:List Int} (x:Int) (B:zW m ch=qs++[p]) (E:qs.length<m.tasks.length):
  Aj m (ch++[x])=qs++[p++[x]]++(if x∈(m.tasks.getD qs.length ([],[])).2 then [[]] else []):=by
 have o:decide (m.tasks.length=0)=false:=Ec (by omega);unfold Aj zV;rw [psOf_snoc,B];unfold BB;rw [addN_snoc,finB_snoc,Eg,Ey];by_cases d:x∈(m.tasks.getD qs.length ([],[])).2
 ·rw [Eb d,if_pos d];by_cases D:qs.length+1<m.tasks.length
  ·rw [if_pos ⟨rfl,D⟩];unfold cmpB;rw [finB_nil,o];simp
  ·rw [if_neg (fun h=>D h.2)];unfold cmpB;rw [finB_snoc,o,Eb d,Eb (show (qs++[p++[x]]).length=m.tasks.length by simp;omega)];simp
 ·rw [Ec d,if_neg d,if_neg (fun h=>by cases h.1)];unfold cmpB;rw [finB_snoc,o,Ec d];simp
theorem splitL_nil (m:MZ):Aj m []=[[]]:=by
 unfold Aj zV;rw [psOf_nil];unfold ps0;by_cases h:m.tasks.length=0
 ·rw [if_pos h];unfold cmpB;rw [Eb h];simp
 ·rw [if_neg h];unfold cmpB;rw [Ec h];have:finB m [[]]=false:=finB_nil (qs:=[]);rw [this];simp
theorem ps_form {m:MZ} (h:zK m ch) (o:zV m ch=false):∃qs p,zW m ch=qs++[p]/\qs.length<m.tasks.length/\Aj m ch=qs++[p]:=by
 have h1:=h.psOk;have h2:=h1.pn (By o);rcases List.eq_nil_or_concat (zW m ch) with h3 | ⟨qs,p,h3⟩
 ·rw [h3] at h2;simp at h2
 ·rw [List.concat_eq_append] at h3;have d:=h1.pl;rw [h3] at d;simp only [Eg,Ey] at d;exact ⟨qs,p,h3,by omega,by rw [CD o,h3]⟩
theorem Ct {m:MZ} (h:zK m ch):(zV m ch=true->(Aj m ch).length=m.tasks.length+1)/\(zV m ch=false->(Aj m ch).length<=m.tasks.length/\0<(Aj m ch).length):=by
 refine ⟨fun hc=>?_,fun hc=>?_⟩
 ·rw [splitL_cmp hc,Eg,Ey];unfold zV cmpB at hc;rw [EY,Ek,Ei,Ei] at hc;rcases hc with hc | hc
  ·have:=h.psOk.pl;omega
  ·omega
 ·obtain ⟨qs,p,h1,h2,h3⟩:=ps_form h hc;rw [h3,Eg,Ey];omega
section
open Go.Lib
theorem CV (d:Array Int) (D:∀i j,i<=j->j<d.size->d[i]!<=d[j]!):∀m,m<=d.size->(compactUpTo d m).Pairwise (·<·)/\∀x,x∈compactUpTo d m↔∃j,j<m/\d[j]! =x
 | 0,_=>⟨by simp [compactUpTo],fun x=>by simp [compactUpTo]⟩
 | m+1,hm=>by
  obtain ⟨h1,h2⟩:=CV d D m (by omega);rw [compactUpTo_succ];by_cases hk:keeps d m=true
  ·rw [if_pos hk];refine ⟨?_,fun x=>?_⟩
   ·rw [List.pairwise_append];refine ⟨h1,by simp,fun a G b E=>?_⟩;rw [EF] at E;subst E;obtain ⟨j,B,rfl⟩:=(h2 a).1 G;unfold keeps at hk;rw [Ei] at hk;rcases hk with hk | hk
    ·omega
    ·have h3:=D j (m - 1) (by omega) (by omega);have J:=D (m - 1) m (by omega) (by omega);omega
   ·rw [EN,h2,EF];constructor
    ·rintro (⟨j,B,e⟩ | e)
     ·exact ⟨j,by omega,e⟩
     ·exact ⟨m,by omega,e.symm⟩
    ·rintro ⟨j,B,e⟩;by_cases o:j=m
     ·subst o;exact .inr e.symm
     ·exact .inl ⟨j,by omega,e⟩
  ·rw [if_neg hk,List.append_nil];refine ⟨h1,fun x=>?_⟩;rw [h2];unfold keeps at hk;rw [Ei] at hk;have I:m≠0:=fun h=>hk (.inl h)
   have he:d[m]! =d[m - 1]!:=Decidable.byContradiction fun h=>hk (.inr h)
   constructor
   ·rintro ⟨j,B,e⟩;exact ⟨j,by omega,e⟩
   ·rintro ⟨j,B,e⟩;by_cases o:j=m
    ·subst o;exact ⟨j - 1,by omega,by rw [<-he];exact e⟩
    ·exact ⟨j,by omega,e⟩
theorem compact_sorted (l:List Int):(compact (Bc l)).Pairwise (·<·)/\∀x,x∈compact (Bc l)↔x∈l:=by
 have hp:(Bc l).Pairwise (fun x y=>decide (x<=y)=true):=by
  unfold Bc;exact List.pairwise_mergeSort (fun a b c h1 h2=>by simp only [Ei] at *;omega) (fun a b=>by simp only [EY,Ei];omega) l
 have D:∀i j,i<=j->j<(Bc l).toArray.size->(Bc l).toArray[i]!<=(Bc l).toArray[j]!:=by
  intro i j B d;rw [List.size_toArray] at d;have o:i<(Bc l).length:=by omega
  rw [getElem!_pos _ i (by simpa using o),getElem!_pos _ j (by simpa using d)];simp only [List.getElem_toArray];rcases Ev i j with h | h
  ·have:=List.pairwise_iff_getElem.1 hp i j o d h;simpa using this
  ·have:i=j:=by omega
   subst this;exact Int.le_refl _
 obtain ⟨h1,h2⟩:=CV (Bc l).toArray D (Bc l).length (by simp);refine ⟨h1,fun x=>?_⟩;unfold compact;rw [h2,<-mem_sortL (l:=l)];constructor
 ·rintro ⟨j,d,e⟩;rw [getElem!_pos _ j (by simpa using d)] at e;simp only [List.getElem_toArray] at e;rw [<-e];exact DZ d
 ·intro E;obtain ⟨j,d,e⟩:=EE E;exact ⟨j,d,by rw [getElem!_pos _ j (by simpa using d)];simpa using e⟩
end
theorem pw_eq {l':List Int} (h:l.Pairwise (·<·)) (B:l'.Pairwise (·<·)) (he:∀x,x∈l↔x∈l'):l=l':=by
 have n1:l.Nodup:=h.imp (fun o=>by omega);have n2:l'.Nodup:=B.imp (fun o=>by omega);have d:l.Perm l':=(List.perm_ext_iff_of_nodup n1 n2).2 he;exact List.Perm.eq_of_pairwise (le:=fun a b=>a<b) (fun a b _ _ h1 h2=>by omega) h B d
theorem range_pw (n:Nat):((List.range n).map Int.ofNat).Pairwise (·<·):=by
 rw [List.pairwise_map];exact (List.pairwise_lt_range (n:=n)).imp (fun h=>by simpa using h)
def begL (m:MZ) (t:Nat) (ch:List Int):List Int:=((List.range m.n.toNat).map Int.ofNat).filter fun k=>decide (k∈(m.tasks.getD t ([],[])).1) && zi m t k && !decide (k∈ch)
theorem cand_beg {m:MZ} (g:AG m) {qs:List (List Int)} (B:zW m ch=qs++[[]]) (E:zV m ch=false) (d:qs.length<m.tasks.length):Ba m ch=begL m qs.length ch:=by
 unfold Ba BS;have h1:(qs++[([]:List Int)]).length - 1=qs.length:=by simp
 have h2:(qs++[([]:List Int)]).getD qs.length []=[]:=by simp [DX]
 unfold zV at E;rw [E,B,if_neg (by simp),h1,h2];show List.filter _ _=_;obtain ⟨s1,s2⟩:=compact_sorted (m.tasks.getD qs.length ([],[])).1;refine pw_eq (s1.filter _) ((range_pw _).filter _) fun x=>?_;show x∈List.filter _ _↔x∈begL m qs.length ch;unfold begL;rw [EV,EV,s2,List.mem_map];simp only [Ek,Ei,Bool.not_eq_true',Ew,EW];constructor
 ·rintro ⟨o,hf,D⟩;rw [DX,DW d,ED] at o;have G:=g.tn _ (DZ d) x (.inl o);refine ⟨⟨x.toNat,by omega,by show (x.toNat:Int)=x;omega⟩,⟨?_,hf⟩,D⟩;rw [DX,DW d,ED];exact o
 ·rintro ⟨_,⟨o,hf⟩,D⟩;exact ⟨o,hf,D⟩
theorem cand_on {m:MZ} {qs:List (List Int)} {p:List Int} (d:zW m ch=qs++[p++[y]]) (o:zV m ch=false):Ba m ch=(zm m y).filter (zB m ch qs.length p (m.tasks.getD qs.length ([],[])).1):=by
 unfold Ba BS;have h1:(qs++[p++[y]]).length - 1=qs.length:=by simp
 have h2:(qs++[p++[y]]).getD qs.length []=p++[y]:=by simp [DX]
 unfold zV at o;rw [o,d,if_neg (by simp),h1,h2];simp
theorem cand_cmp {m:MZ} (d:zV m ch=true):Ba m ch=[]:=by
 unfold Ba BS;unfold zV at d;rw [if_pos d]
theorem openC_true {m:MZ} (h:zK m ch) (d:∀t,(Aj m ch).length - 1<=t->t<m.tasks.length->CC m (zW m ch) ch t=true):Az m ch=true:=by
 unfold Az openB;rw [Fa];intro k B;rw [EW] at B;unfold tasksN at B
 split at B
 ·omega
 ·rename_i o
  have o:zV m ch=false:=by unfold zV;simpa using o
  rw [CD o] at d;have:=h.psOk.pn (By o);exact d _ (by omega) (by omega)
theorem openC_false {m:MZ} {t:Nat} (h:zK m ch) (h0:(Aj m ch).length - 1<=t) (ht:t<m.tasks.length) (hf:CC m (zW m ch) ch t=false):Az m ch=false:=by
 cases o:zV m ch
 ·unfold Az openB;rw [<-Bool.not_eq_true,Fa];intro d;rw [CD o] at h0;have hp:=h.psOk.pn (By o)
  have h1:=d (t - ((zW m ch).length - 1)) (by
   rw [EW];unfold tasksN;unfold zV at o;rw [o,if_neg (by simp)];omega)
  rw [show (zW m ch).length - 1+(t - ((zW m ch).length - 1))=t from by omega,hf] at h1;cases h1
 ·have:=(Ct h).1 o;omega
theorem fromL_on {m:MZ} {us:List Int} {qs:List (List Int)} {p:List Int} (d:zW m ch=qs++[p++[y]]):Ay m (zW m ch) us qs.length=[y]:=by
 unfold Ay;rw [d,if_pos (by simp)];have h2:(qs++[p++[y]]).getD qs.length []=p++[y]:=by simp [DX]
 rw [h2];simp
theorem fromL_off {m:MZ} {us:List Int} {qs:List (List Int)} {p:List Int} {t:Nat} (d:zW m ch=qs++[p]) (ht:t≠qs.length\/p=[]):Ay m (zW m ch) us t=((m.tasks.getD t ([],[])).1).filter fun n=>zi m t n && !decide (n∈us):=by
 unfold Ay;rw [d]
 have:(if t+1=(qs++[p]).length then ((qs++[p]).getD t []).getLast? else none)=none:=by
  rcases ht with ht | rfl
  ·rw [if_neg (by simp;omega)]
  ·split
   ·rename_i h
    have:t=qs.length:=by simp at h;omega
    subst this;simp [DX]
   ·rfl
 rw [this];simp only [Bool.not_or,Bool.not_not]
theorem any_comm (a b:List Int):(a.any fun x=>decide (x∈b))=(b.any fun x=>decide (x∈a)):=by
 rw [Bool.eq_iff_iff,EZ,EZ];simp only [Ei];exact ⟨fun ⟨x,h1,h2⟩=>⟨x,h2,h1⟩,fun ⟨x,h1,h2⟩=>⟨x,h2,h1⟩⟩
structure SpA (w1 wr:World) (v u:Value) (vs:List Value) (S:Nat) (qs:List (List Int)) (p:List Int):Prop where
 ext:za w1 wr
 lo:w1.heap.size<=S
 hi:S<=wr.heap.size
 own:OwnL wr w1.heap.size v (vs++[u])
 vl:vs.length=qs.length
 old:∀(i:Nat) q,qs[i]?=some q->∃x,vs[i]?=some x/\zL wr w1.heap.size x q/\∀g,x.ownBlock=some g->g<S
 cur:zL wr S u p
def SpV (w1 wr:World) (v:Value) (qs:List (List Int)) (p:List Int):Prop:=∃u vs S,SpA w1 wr v u vs S qs p
theorem intsTake {ok:Nat->Prop} {A:Option Addr} {N:Nat} (h:zk w ok (.slice A n c) l) (E:N<=n):zk w ok (.slice A N c) (l.take N):=by
 obtain ⟨A',c',e,G,I,D⟩:=h;injection e with e1 e2 e3;subst e1 e2 e3;refine ⟨A,c,by rw [EQ,Nat.min_eq_left (by omega)],by rw [EQ];omega,by simp,fun hp=>?_⟩;rw [EQ] at hp;obtain ⟨b,off,e,B,d⟩:=D (by omega);refine ⟨b,off,e,B,fun j u o=>d j u ?_⟩;rw [List.map_take,List.getElem?_take] at o
 split at o
 ·exact o
 ·cases o
theorem row_one {u:Value} (h:W.cell? ⟨g,0,none⟩=some u):Bv W (fun _=>True) 1 (.slice (some ⟨g,0,none⟩) 1 1) 1 [u]:=
 ⟨some ⟨g,0,none⟩,1,rfl,DY _,rfl,fun _=>⟨g,0,rfl,trivial,fun j x d=>by
  match j,d with
  | 0,d=>
   have:x=u:=by simpa using d.symm
   subst this;exact h⟩⟩
theorem Dw {B:Nat} {v:Value} (h:zL w B v l):∃A n c,v=.slice A n c:=by
 obtain ⟨A,c,e,_⟩:=AL h;exact ⟨A,_,c,e⟩
section
variable {w1 wr w':World} {v u u':Value} {vs:List Value} {S:Nat} {qs:List (List Int)} {p:List Int}
theorem SpA.more (h:SpA w1 wr v u vs S qs p) (d:za wr w'):SpA w1 w' v u vs S qs p:=
 ⟨h.ext.trans d,h.lo,Ea h.hi d.size,h.own.ext d,h.vl,fun i q o=>by
  obtain ⟨x,h1,h2,h3⟩:=h.old i q o;exact ⟨x,h1,h2.ext d,h3⟩,h.cur.ext d⟩
theorem SpV.more (h:SpV w1 wr v qs p) (d:za wr w'):SpV w1 w' v qs p:=by
 obtain ⟨u,vs,S,h⟩:=h;exact ⟨u,vs,S,h.more d⟩
theorem SpA.form (h:SpA w1 wr v u vs S qs p):∃g c,v=.slice (some ⟨g,0,none⟩) (qs.length+1) c/\w1.heap.size<=g/\qs.length+1<=c/\wr.cell? ⟨g,qs.length,none⟩=some u:=by
 have B:(vs++[u]).length=qs.length+1:=by rw [Eg,Ey,h.vl]
 have d:=h.own;unfold OwnL at d;rw [B] at d;obtain ⟨g,c,rfl,o,D⟩:=World.ownsRow.form d (by omega);refine ⟨g,c,rfl,o,BE d,?_⟩;rw [World.ownsRow.cellAt d _ (by omega),<-h.vl,Ee (DY _),Nat.sub_self];rfl
theorem SpA.push (h:SpA w1 wr (.slice (some ⟨g,0,none⟩) n c) u vs S qs p) (J:zL w' S u' (p++[x])) (D:Hid (wr.grownBy w' u.ownBlock)):
  SpA w1 (w'.setCell ⟨g,qs.length,none⟩ u') (.slice (some ⟨g,0,none⟩) n c) u' vs S qs (p++[x]):=by
 have o:=h.cur;have d:OwnL w' w1.heap.size (.slice (some ⟨g,0,none⟩) n c) (vs++[u]):=World.ownsRow.kept h.own D.out (own_ne h.own o (by decide));have K:w1.heap.size<=g:=(World.ownsRow.lt h.own g rfl).1;have E:za w1 w':=Ao h.ext D h.ext.size (fun k M=>Ea h.lo (AO o M))
 have B:=(World.ownsRow.stored (n:=n) (cap:=c) (xs:=vs++[u]) (by
  have G:(vs++[u]).length=n:=by
   have h0:=d;unfold OwnL at h0;obtain ⟨g',c',e,_,_⟩:=World.ownsRow.form h0 (by simp);injection e with _ e2 _;exact e2.symm
  have h0:=d;unfold OwnL at h0
  rwa [G] at h0) qs.length u')
 refine ⟨E.setCell K _,h.lo,Ea h.hi (by rw [World.setCell];simpa using D.out.size),?_,h.vl,fun i q O=>?_,?_⟩
 ·have h1:=B.1;rw [<-h.vl,List.set_append_right _ _ (DY _),Nat.sub_self] at h1
  have G:n=(vs++[u']).length:=by
   have:=B.1.1;rw [<-h.vl,List.set_append_right _ _ (DY _),Nat.sub_self] at this;simp at this⊢;omega
  unfold OwnL;rw [<-G];rw [h.vl] at h1;exact h1
 ·obtain ⟨x',h1,h2,h3⟩:=h.old i q O
  have I:zL w' w1.heap.size x' q:=World.ownsRow.kept h2 D.out (by
   cases Q:x'.ownBlock with
   | none=>exact .inl rfl
   | some k=>
    refine .inr fun e=>?_
    have:=h3 k Q;have:=AO o e.symm;omega)
  refine ⟨x',h1,ownsRow_setCell_other I (fun e=>?_) _,h3⟩;rcases own_ne I d (by decide) with h5 | h5
  ·rw [h5] at e;cases e
  ·exact h5 e
 ·refine ownsRow_setCell_other J (fun e=>?_) _;rcases own_ne J d (by decide) with h5 | h5
  ·rw [h5] at e;cases e
  ·exact h5 e
theorem SpA.slot (h:SpA w1 wr (.slice (some ⟨g,0,none⟩) n c) u vs S qs p) (o:Hid (wr.grownBy w' u.ownBlock)):
  w'.cell? ⟨g,qs.length,none⟩=some u/\w'.frozen? ⟨g,qs.length,none⟩=false/\za w1 w':=by
 have d:OwnL w' w1.heap.size (.slice (some ⟨g,0,none⟩) n c) (vs++[u]):=World.ownsRow.kept h.own o.out (own_ne h.own h.cur (by decide))
 have B:n=(vs++[u]).length:=by
  have h0:=d;unfold OwnL at h0;obtain ⟨g',c',e,_,_⟩:=World.ownsRow.form h0 (by simp);injection e with _ e2 _
 unfold OwnL at d;rw [<-B] at d;refine ⟨?_,World.ownsRow.frozenAt d _,Ao h.ext o h.ext.size (fun k D=>Ea h.lo (AO h.cur D))⟩;rw [World.ownsRow.cellAt d _ (by rw [B];simp [h.vl]),<-h.vl,Ee (DY _),Nat.sub_self];rfl
theorem SpA.next {v':Value} (h:SpA w1 wr v u vs S qs p) (J:OwnL w' w1.heap.size v' (vs++[u]++[.slice none 0 0])) (E:Hid (wr.grownBy w' v.ownBlock)):
  SpA w1 w' v' (.slice none 0 0) (vs++[u]) wr.heap.size (qs++[p]) []:=by
 have D:∀{x:Value} {B:Nat} {l:List Int},zL wr B x l->zL w' B x l:=fun I=>World.ownsRow.kept I E.out (own_ne I h.own (by decide))
 refine ⟨Ao h.ext E h.ext.size (fun k D=>(World.ownsRow.lt h.own k D).1),h.ext.size,E.out.size,J,by simp [h.vl],fun i q o=>?_,World.ownsRow_nil _ _ _ _⟩;rcases Ev i qs.length with hi | hi
 ·rw [Ed hi] at o;obtain ⟨x,h1,h2,h3⟩:=h.old i q o;exact ⟨x,by rw [Ed (by rw [h.vl];exact hi)];exact h1,D h2,fun g d=>EA (h3 g d) h.hi⟩
 ·have G:i=qs.length:=by
   rcases Ev i (qs++[p]).length with h1 | h1
   ·simp at h1;omega
   ·rw [Es h1] at o;cases o
  subst G;rw [Ee (DY _),Nat.sub_self] at o;have hp:p=q:=by simpa using o
  subst hp;refine ⟨u,by rw [<-h.vl,Ee (DY _),Nat.sub_self];rfl,(D h.cur).mono h.lo,fun g d=>(World.ownsRow.lt h.cur g d).2⟩
theorem SpA.intss (h:SpA w1 wr v u vs S qs p):Aa wr (fun b=>w1.heap.size<=b) v (qs++[p]):=by
 refine ⟨vs++[u],?_,fun i q d=>?_⟩
 ·have h1:=Bv.of_own h.own;have h2:(vs++[u]).length=(qs++[p]).length:=by simp [h.vl]
  rw [h2] at h1;exact h1
 ·rcases Ev i qs.length with hi | hi
  ·rw [Ed hi] at d;obtain ⟨x,h1,h2,h3⟩:=h.old i q d;exact ⟨x,by rw [Ed (by rw [h.vl];exact hi)];exact h1,Bv.of_own h2⟩
  ·have o:i=qs.length:=by
    rcases Ev i (qs++[p]).length with h1 | h1
    ·simp at h1;omega
    ·rw [Es h1] at d;cases d
   subst o;rw [Ee (DY _),Nat.sub_self] at d;have hp:p=q:=by simpa using d
   subst hp;exact ⟨u,by rw [<-h.vl,Ee (DY _),Nat.sub_self];rfl,Bv.of_own (h.cur.mono h.lo)⟩
theorem SpV.intss (h:SpV w1 wr v qs p):Aa wr (fun b=>w1.heap.size<=b) v (qs++[p]):=by
 obtain ⟨u,vs,S,h⟩:=h;exact h.intss
theorem SpA.init (h:za w1 W):SpA w1 (W.alloc (.cells #[.slice none 0 0] 23)) (.slice (some ⟨W.heap.size,0,none⟩) 1 1) (.slice none 0 0) [] W.heap.size [] []:=
 ⟨h.alloc _,h.size,by simp,⟨rfl,.inr ⟨W.heap.size,1,#[.slice none 0 0],rfl,h.size,EL W _,DY _,by decide,rfl,rfl⟩⟩,rfl,fun i q d=>by simp at d,World.ownsRow_nil _ _ _ _⟩
end
end
end Go.Proofs.YtjomnbdjajjgfaaGreatDoor
