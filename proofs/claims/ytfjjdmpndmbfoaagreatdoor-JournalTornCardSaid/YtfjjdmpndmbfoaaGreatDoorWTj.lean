import Derived.Test.YtfjjdmpndmbfoaaGreatDoorWTh
import Derived.KernelRfl
import Derived.Deep.AppendLies
set_option linter.unusedVariables false
set_option linter.unusedSimpArgs false
set_option maxRecDepth 100000
set_option maxHeartbeats 16000000
namespace Go.Proofs.YtfjjdmpndmbfoaaGreatDoor
variable {n z:Int} {ps:List (List Int)} {S acc ch:List Int} {Y okc:Nat->Prop} {v vc:Value} {w:World}
section
open Go.RowKit
def Bp (m:MZ) (t:Nat) (us acc:List Int) (z:Int):List Int:=if (zm m t z && !decide (z∈us) && !decide (z∈acc))=true then acc++[z] else acc
def growX (m:MZ) (t:Nat) (us S:List Int):List Int:=(S.flatMap (zy m)).foldl (Bp m t us) S
def growN (m:MZ) (t:Nat) (us:List Int):Nat->List Int->List Int
 | 0,S=>S
 | k+1,S=>growN m t us k (growX m t us S)
def start (m:MZ) (f:List Int):List Int:=f.foldl (fun acc x=>if (decide (0<=x) && decide (x<m.n) && !decide (x∈acc))=true then acc++[x] else acc) []
def reachX (m:MZ) (t:Nat) (f us:List Int):List Int:=growN m t us (m.n.toNat+1) (start m f)
section
variable {m:MZ} {t:Nat} {us f:List Int}
structure GK (m:MZ) (t:Nat) (f us S:List Int):Prop where
 nd:S.Nodup
 rg:∀x∈S,0<=x/\x<m.n
 rp:∀x∈S,RP m t f us x
theorem addIf_sub (acc:List Int) (z:Int):∀x∈acc,x∈Bp m t us acc z:=by
 intro x d;unfold Bp
 split
 ·exact List.mem_append_left _ d
 ·exact d
theorem addIf_len (acc:List Int) (z:Int):acc.length<=(Bp m t us acc z).length:=by
 unfold Bp
 split <;> simp
theorem addIf_gk (h:GK m t f us acc) (h0:0<=z/\z<m.n) (h1:zm m t z=true->z∉us->RP m t f us z):GK m t f us (Bp m t us acc z):=by
 unfold Bp
 split
 ·rename_i d
  simp only [DQ,Bool.not_eq_true',Eb] at d;refine ⟨?_,fun x hx=>?_,fun x hx=>?_⟩
  ·rw [List.nodup_append];refine ⟨h.nd,by simp,fun a B b o=>?_⟩;rw [Ek] at o;rintro rfl;subst o;exact d.2 B
  ·rcases Es.1 hx with hx | hx
   ·exact h.rg x hx
   ·rw [Ek] at hx;subst hx;exact h0
  ·rcases Es.1 hx with hx | hx
   ·exact h.rp x hx
   ·rw [Ek] at hx;subst hx;exact h1 d.1.1 d.1.2
 ·exact h
theorem fold_sub:∀(l acc:List Int),∀x∈acc,x∈l.foldl (Bp m t us) acc
 | [],acc,x,d=>d
 | z :: l,acc,x,d=>fold_sub l (Bp m t us acc z) x (addIf_sub acc z x d)
theorem fold_len:∀(l acc:List Int),acc.length<=(l.foldl (Bp m t us) acc).length
 | [],acc=>DE _
 | z :: l,acc=>DG (addIf_len acc z) (fold_len l _)
theorem fold_gk:∀(l acc:List Int),GK m t f us acc->(∀z∈l,(0<=z/\z<m.n)/\(zm m t z=true->z∉us->RP m t f us z))->GK m t f us (l.foldl (Bp m t us) acc)
 | [],acc,h,_=>h
 | z :: l,acc,h,d=>fold_gk l _ (addIf_gk h (d z (Eo ..)).1 (d z (Eo ..)).2) (fun x o=>d x (DY _ o))
theorem grow_gk (d:Dim m) (h:GK m t f us S):GK m t f us (growX m t us S):=by
 refine fold_gk _ _ h fun z G=>?_
 obtain ⟨y,D,B⟩:=List.mem_flatMap.1 G;have o:=h.rg y D;exact ⟨BY d o.1 o.2 B,fun h1 E=>(h.rp y D).step B h1 E⟩
def Closed (m:MZ) (t:Nat) (us S:List Int):Prop:=∀y∈S,∀z∈zy m y,zm m t z=true->z∉us->z∈S
theorem addIf_eq (h:zm m t z=true->z∉us->z∈acc):Bp m t us acc z=acc:=by
 unfold Bp;rw [if_neg];intro d;simp only [DQ,Bool.not_eq_true',Eb] at d;exact d.2 (h d.1.1 d.1.2)
theorem fold_eq:∀(l acc:List Int),(∀z∈l,zm m t z=true->z∉us->z∈acc)->l.foldl (Bp m t us) acc=acc
 | [],acc,_=>rfl
 | z :: l,acc,h=>by
  rw [List.foldl_cons,addIf_eq (h z (Eo ..))];exact fold_eq l acc (fun x d=>h x (DY _ d))
theorem grow_closed (h:Closed m t us S):growX m t us S=S:=
 fold_eq _ _ fun z B=>by
  obtain ⟨y,o,d⟩:=List.mem_flatMap.1 B;exact h y o z d
theorem fold_more:∀(l acc:List Int),(∃z∈l,zm m t z=true/\z∉us/\z∉acc)->acc.length<(l.foldl (Bp m t us) acc).length
 | z :: l,acc,⟨x,hx,h1,o,B⟩=>by
  rw [List.foldl_cons];rcases Er.1 hx with rfl | hx
  ·have:(Bp m t us acc x).length=acc.length+1:=by
    unfold Bp;rw [if_pos (by simp [h1,o,B])];simp
   have:=fold_len (m:=m) (t:=t) (us:=us) l (Bp m t us acc x);omega
  ·by_cases d:x∈Bp m t us acc z
   ·have D:acc.length<(Bp m t us acc z).length:=by
     unfold Bp at d⊢
     split
     ·simp
     ·rename_i E;rw [if_neg E] at d;exact absurd d B
    exact Ef D (fold_len l _)
   ·exact Nat.lt_of_le_of_lt (addIf_len acc z) (fold_more l _ ⟨x,hx,h1,o,d⟩)
theorem growN_gk (d:Dim m):∀(k:Nat) {S:List Int},GK m t f us S->GK m t f us (growN m t us k S)
 | 0,S,h=>h
 | k+1,S,h=>growN_gk d k (grow_gk d h)
theorem growN_sub:∀(k:Nat) (S:List Int),∀x∈S,x∈growN m t us k S
 | 0,S,x,d=>d
 | k+1,S,x,d=>growN_sub k _ x (fold_sub _ _ x d)
theorem growN_closed {S:List Int} (h:Closed m t us S):∀k,growN m t us k S=S
 | 0=>rfl
 | k+1=>by unfold growN;rw [grow_closed h];exact growN_closed h k
theorem growN_or:∀(k:Nat) (S:List Int),Closed m t us (growN m t us k S)\/S.length+k<=(growN m t us k S).length
 | 0,S=>.inr (DE _)
 | k+1,S=>by
  by_cases h:Closed m t us S
  ·left
   rw [growN_closed h];exact h
  ·have h1:S.length<(growX m t us S).length:=by
    refine fold_more _ _ ?_;unfold Closed at h;simp only [Classical.not_forall] at h;obtain ⟨y,o,z,B,h1,h2,d⟩:=h;exact ⟨z,List.mem_flatMap.2 ⟨y,o,B⟩,h1,h2,d⟩
   rcases growN_or k (growX m t us S) with h2 | h2
   ·exact .inl h2
   ·right
    unfold growN;omega
theorem start_gk (m:MZ) (t:Nat) (us f:List Int):GK m t f us (start m f)/\∀x∈f,0<=x->x<m.n->x∈start m f:=by
 have key:∀(l acc:List Int),(∀x∈l,x∈f)->GK m t f us acc->GK m t f us (l.foldl (fun acc x=>if (decide (0<=x) && decide (x<m.n) && !decide (x∈acc))=true then acc++[x] else acc) acc)/\
   (∀x∈acc,x∈l.foldl (fun acc x=>if (decide (0<=x) && decide (x<m.n) && !decide (x∈acc))=true then acc++[x] else acc) acc)/\∀x∈l,0<=x->x<m.n->x∈l.foldl (fun acc x=>if (decide (0<=x) && decide (x<m.n) && !decide (x∈acc))=true then acc++[x] else acc) acc:=by
  intro l
  induction l with
  | nil=>intro acc _ h;exact ⟨h,fun x hx=>hx,fun x hx=>by cases hx⟩
  | cons z l ih=>
   intro acc D h;rw [List.foldl_cons];by_cases d:(decide (0<=z) && decide (z<m.n) && !decide (z∈acc))=true
   ·rw [if_pos d];simp only [DQ,Bool.not_eq_true',Eb,DO] at d
    obtain ⟨h1,o,B⟩:=ih (acc++[z]) (fun x hx=>D x (DY _ hx)) ⟨by
     rw [List.nodup_append];refine ⟨h.nd,by simp,fun a G b E=>?_⟩;rw [Ek] at E;rintro rfl;subst E;exact d.2 G,fun x hx=>by
     rcases Es.1 hx with hx | hx
     ·exact h.rg x hx
     ·rw [Ek] at hx;subst hx;exact d.1,fun x hx=>by
     rcases Es.1 hx with hx | hx
     ·exact h.rp x hx
     ·rw [Ek] at hx;subst hx;exact RP.base (D x (Eo ..)) d.1.1 d.1.2⟩
    refine ⟨h1,fun x hx=>o x (List.mem_append_left _ hx),fun x hx a b=>?_⟩;rcases Er.1 hx with rfl | hx
    ·exact o x (by simp)
    ·exact B x hx a b
   ·rw [if_neg d];obtain ⟨h1,o,B⟩:=ih acc (fun x hx=>D x (DY _ hx)) h;refine ⟨h1,o,fun x hx a b=>?_⟩;rcases Er.1 hx with rfl | hx
    ·refine o x ?_;simp only [DQ,Bool.not_eq_true',Eb,DO] at d;by_cases hm:x∈acc
     ·exact hm
     ·exact absurd ⟨⟨a,b⟩,hm⟩ d
    ·exact B x hx a b
 have h:=key f [] (fun _ h=>h) ⟨List.nodup_nil,fun x hx=>absurd hx Ey,fun x hx=>absurd hx Ey⟩;exact ⟨h.1,h.2.2⟩
theorem mem_reachX (d:Dim m) (x:Int):x∈reachX m t f us↔RP m t f us x:=by
 have D:=start_gk m t us f;have o:=growN_gk (t:=t) (f:=f) (us:=us) d (m.n.toNat+1) D.1
 have G:Closed m t us (reachX m t f us):=by
  rcases growN_or (m:=m) (t:=t) (us:=us) (m.n.toNat+1) (start m f) with h | h
  ·exact h
  ·have:=Cn o.nd m.n o.rg;omega
 constructor
 ·exact fun h=>o.rp x h
 ·intro h;exact h (fun x=>x∈reachX m t f us) (fun y B h0 h1=>growN_sub _ _ y (D.2 y B h0 h1)) (fun y z B I h1 E=>G y B z I h1 E)
end
def openTX (m:MZ) (ps:List (List Int)) (us:List Int) (t:Nat):Bool:=((m.tasks.getD t ([],[])).2).any fun x=>decide (x∈reachX m t (AS m ps us t) us)
def openX (m:MZ) (ch:List Int):Bool:=(List.range (tasksN m (Ao m ch))).all fun k=>openTX m (Ao m ch) ch ((Ao m ch).length - 1+k)
theorem openC_x {m:MZ} (d:Dim m) (ch:List Int):Be m ch=openX m ch:=by
 unfold Be openX openB;congr 1;funext k;unfold openT openTX;congr 1;funext x;rw [decide_eq_decide,Bu d,mem_reachX d]
def aftX (m:MZ) (ch:List Int) (last:Int):Option Int:=(Bn m ch).find? fun n=>decide (last<n) && openX m (ch++[n])
theorem aft_x {m:MZ} (d:Dim m) (ch:List Int) (last:Int):aft m ch last=aftX m ch last:=by
 unfold aft aftX;congr 1;funext n;rw [openC_x d]
def backX (m:MZ) (ch:List Int):Nat->Option (List Int)
 | 0=>none
 | k+1=>match aftX m (ch.take k) (ch.getD k 0) with
  | some n=>some (ch.take k++[n])
  | none=>backX m ch k
theorem back_x {m:MZ} (d:Dim m) (ch:List Int):∀k,backN m ch k=backX m ch k
 | 0=>rfl
 | k+1=>by
  unfold backN backX;rw [aft_x d,back_x d ch k]
  all_goals rfl
def stepX (m:MZ) (ch:List Int):Option (List Int):=
 match aftX m ch (-1) with
 | some n=>some (ch++[n])
 | none=>backX m ch ch.length
theorem step_x {m:MZ} (d:Dim m) (ch:List Int):stepC m ch=stepX m ch:=by
 unfold stepC stepX;rw [aft_x d,back_x d]
 all_goals rfl
def RS.oneX (m:MZ) (s:RS):RS:=match stepX m s.ch with
 | some c=>⟨c,Bk m c,s.steps+1⟩
 | none=>⟨[],true,s.steps+1⟩
def RS.runX (m:MZ):Nat->RS->RS
 | 0,s=>s
 | n+1,s=>if s.done=true then s else RS.runX m n (s.oneX m)
theorem run_x {m:MZ} (d:Dim m):∀(n:Nat) (s:RS),RS.run m n s=RS.runX m n s
 | 0,s=>rfl
 | n+1,s=>by
  unfold RS.run RS.runX;rw [run_x d n];unfold RS.one RS.oneX;rw [step_x d]
  all_goals rfl
theorem reachL_pw (m:MZ) (t:Nat) (f us:List Int):(Bv m t f us).Pairwise (·<·):=by
 unfold Bv;apply List.Pairwise.filter;rw [List.pairwise_map];exact List.Pairwise.imp (fun h=>by simpa using h) List.pairwise_lt_range
theorem good_chk {m:MZ} (g:zX m):BS m=0:=by
 have d:=g.dim
 have D:[m.w,m.h,m.l].any side=false:=by
  have h1:=d.w1;have o:=d.w2;have E:=d.h1;have G:=d.h2;have I:=d.l1;have J:=d.l2;simp [side];omega
 unfold BS;rw [D,if_neg (by simp),if_neg (by have:=d.n1;have:=g.tk;unfold MZ.n;omega),if_neg,if_neg]
 ·intro h;obtain ⟨t,ht,h1⟩:=ED.1 h;rw [EC] at h1;rcases h1 with h1 | h1
  ·obtain ⟨x,B,o⟩:=ED.1 h1;have:=g.tn t ht x (.inl B);simp [Am] at o;omega
  ·obtain ⟨x,B,o⟩:=ED.1 h1;have:=g.tn t ht x (.inr B);simp [Am] at o;omega
 ·intro h;rcases h with h | h | h
  ·exact h g.fl
  ·exact h d.up
  ·obtain ⟨f,hf,o⟩:=ED.1 h;have:=g.fn f hf;simp at o;exact o this
end
section
open Go.RowKit
attribute [local go_sem ↓] Go.wp_at_zero Go.wp_at_succ
def isChB (m:MZ) (ch:List Int):Bool:=(List.range ch.length).all fun k=>decide (ch.getD k 0∈Bn m (ch.take k))
theorem isCh_of {m:MZ} {ch:List Int} (h:∀k,k<ch.length->ch.getD k 0∈Bn m (ch.take k)):∀k,k<=ch.length->zG m (ch.take k)
 | 0,_=>by simpa using zG.nil
 | k+1,d=>by
  rw [DL (by omega)];have h1:=h k (by omega);rw [DD,DC (by omega),Ei] at h1;exact .snoc (isCh_of h k (by omega)) h1
theorem AV {m:MZ}:isChB m ch=true↔zG m ch:=by
 unfold isChB;rw [EE];constructor
 ·intro h;have:=isCh_of (m:=m) (ch:=ch) (fun k d=>of_decide_eq_true (h k (EB.2 d))) ch.length (DE _)
  rwa [DP] at this
 ·intro h k d;have d:=EB.1 d;rw [DO,DD,DC d,Ei];exact h.at d
noncomputable def loadE (m:MZ) (ch:List Int) (st:Int):Int:=
 if BS m≠0 then BS m else if st<0 then 1 else if (isChB m ch && (decide (ch=[]) || Be m ch))=true then 0 else 51
def loadS (m:MZ) (ch:List Int) (st:Int):RS:=⟨ch,Bk m ch || (decide (ch=[]) && decide (0<st)),st⟩
theorem Ai.new {wb:World} {X Y ok:Nat->Prop} {p:Nat} {m:MZ} {st:Int} (o:Dz wb ok p m []) (d:∀b,ok b->b<wb.heap.size->X b\/Y b) (B:∀b,wb.heap.size<=b->X b) (D:∀b,Y b->b<wb.heap.size):
  Ai ((wb.alloc (.cells #[ptrV p] 107)).alloc (.cells #[.slice (some ⟨wb.heap.size,0,none⟩) 1 1,.bool false,.int .i64 st] 101)) X Y (wb.heap.size+1) wb.heap.size 1 m ⟨[],false,st⟩ [p]:=by
 have G:zc wb ((wb.alloc (.cells #[ptrV p] 107)).alloc (.cells #[.slice (some ⟨wb.heap.size,0,none⟩) 1 1,.bool false,.int .i64 st] 101)):=((zc.refl _).alloc _).alloc _;refine ⟨zg.new _ _ _ (by simp),B _ (by omega),B _ (by omega),by omega,fun h=>by have:=D _ h;omega,fun h=>by have:=D _ h;omega,?_,rfl,?_⟩
 ·exact ⟨rfl,.inr ⟨wb.heap.size,1,#[ptrV p],rfl,DS _,(zg.new wb _ _ rfl).alloc _,DE _,by unfold maxLen;omega,rfl,rfl⟩⟩
 ·intro k p' hp
  match k,hp with
  | 0,hp=>
   have:p=p':=by simpa using hp
   subst this;refine (o.bound.ext G).weaken fun b E=>?_
   rcases d b E.1 E.2 with h | h
   ·exact .inl ⟨h,by omega,by omega⟩
   ·exact .inr h
def BU (w:World) (Y:Nat->Prop) (m:MZ) (ch:List Int) (st:Int) (e:Ending) (w':World):Prop:=
 ∃v,e=.returned (.tuple #[v,.int .i64 (loadE m ch st)])/\zc w w'/\
  ((loadE m ch st≠0/\v=.pointer none)\/(loadE m ch st=0/\zX m/\zG m ch/\∃g gr cap pt,v=ptrV g/\Ai w' (fun b=>w.heap.size<=b) Y g gr cap m (loadS m ch st) pt))
structure LR (w wr:World) (Y:Nat->Prop) (g gr cap:Nat) (m:MZ) (ch:List Int) (st:Int) (k:Nat) (pt:List Nat):Prop where
 rt:Ai wr (fun b=>w.heap.size<=b) Y g gr cap m ⟨ch.take k,false,st⟩ pt
 ext:zc w wr
 ch:zG m (ch.take k)
theorem load_fin {w9:World} {g gr cap:Nat} {m:MZ} {st:Int} {pt:List Nat} {d:Bool} {c:List Int} (h:Ai w9 (fun b=>w.heap.size<=b) Y g gr cap m ⟨c,false,st⟩ pt) (D:zc w w9) (E:c=ch) (B:zG m ch) (I:zX m) (o:loadE m ch st=0) (G:d=(loadS m ch st).done):
  BU w Y m ch st (.returned (.tuple #[.pointer (some ⟨g,0,none⟩),.int .i64 0])) (w9.setCell ⟨g,1,none⟩ (.bool d)):=by
 subst E;refine ⟨.pointer (some ⟨g,0,none⟩),by rw [o],D.setCell (p:=⟨g,1,none⟩) h.xg _,.inr ⟨o,I,B,g,gr,cap,pt,rfl,?_⟩⟩;have:=h.done d;rw [G] at this⊢;exact this
theorem load_calls {m:MZ} (st:Int) (w:World) (hm:Ad w Y v m) (hl:Lens m) (h8:zl w okc vc ch) (l5:ch.length<=20000000000000) (h7:∀b,Y b->b<w.heap.size):
  Calls Tryz.prog 31 #[v,vc,.int .i64 st] w (BU w Y m ch st):=by
 have i2:=hm;obtain ⟨vfr,vup,vts,rfl,_,_,j9⟩:=hm;have h5:=zh i2;clear i2 j9;have k4:=zh h8;obtain ⟨Ac,cc,rfl,l4,i4⟩:=h8;have i9:=zh i4;clear i4;have HL:=zh hl;clear hl;have e0:=zh h7;clear h7;obtain ⟨MV,j2⟩:=EH (Value.agg #[.int .i64 m.w,.int .i64 m.h,.int .i64 m.l,vfr,vup,vts]);obtain ⟨ck,h9⟩:=EH (BS m);have d6:=zh h9;clear h9;obtain ⟨i0,hi,i7,f5,e9⟩:=info_parts Tryz.infoPst;have IF:=zh hi;have IZ0:=zh i7;have IZ1:=zh f5;have IZ2:=zh e9;clear hi i7 f5 e9 j2
 go_enter Tryz.func31,Tryz.ntmps31
 go_wp2_with fail
 generalize h2:w.alloc (.cells #[.int .i64 m.w,.int .i64 m.h,.int .i64 m.l,vfr,vup,vts] 29)=w1;have g3:zc w w1:=by rw [<-h2];exact (zc.refl w).alloc _
 have i1:zg w1 w.heap.size 29 #[.int .i64 m.w,.int .i64 m.h,.int .i64 m.l,vfr,vup,vts]:=by rw [<-h2];exact Ep _ _
 clear h2;obtain ⟨m0,m1,m2,m3,m4,m5⟩:=zw i1;have c0:=zc.rule m0;have c1:=zc.rule m1;have c2:=zc.rule m2;have c3:=zc.rule m3;have c4:=zc.rule m4;have c5:=zc.rule m5;clear m0 m1 m2 m3 m4 m5 i1;refine (By w1 (h5.out.below g3) HL.out).mono ?_;rintro e w2 ⟨rfl,f4⟩;have f4:zc w1 w2:=f4;have c9:zc w w2:=g3.trans f4;rw [<-d6.out];by_cases h0:ck=0
 case neg=>
  have l6:(ck==0)=false:=by rw [DR];exact h0
  have l7:(ck != 0)=true:=by rw [bne_iff_ne];exact h0
  have a0:loadE m ch st=ck:=by unfold loadE;rw [<-d6.out,if_pos h0]
  have Q:BU w Y m ch st (.returned (.tuple #[.pointer none,.int .i64 ck])) w2:=⟨.pointer none,by rw [a0],c9,.inl ⟨by rw [a0];exact h0,rfl⟩⟩;have I:=zh Q;clear Q a0 h0
  go_wp2_with fail
  go_ret2
  exact I.out
 case pos=>
  subst h0;have HG:=zh (zX.of d6.out.symm);by_cases f3:st<0
  ·have a0:loadE m ch st=1:=by unfold loadE;rw [<-d6.out,if_neg (by simp),if_pos f3]
   have Q:BU w Y m ch st (.returned (.tuple #[.pointer none,.int .i64 1])) w2:=⟨.pointer none,by rw [a0],c9,.inl ⟨by rw [a0];decide,rfl⟩⟩;have I:=zh Q;clear Q a0
   go_wp2_with fail
   go_ret2
   exact I.out
  ·have l0:0<=st:=by omega
   have l8:decide (st<0)=false:=DI f3
   have d8:Hid (loadE m ch st=if (isChB m ch && (decide (ch=[]) || Be m ch))=true then 0 else 51):=by
    show loadE m ch st=_;unfold loadE;rw [<-d6.out,if_neg (by simp),if_neg f3]
   clear f3
   go_wp2_with fail
   refine (begin_c w2 (h5.out.below c9) (by have:=HG.out.tk;omega)).mono ?_;rintro e w3 ⟨p,rfl,i6,f8⟩;have g0:zc w w3:=c9.trans i6
   have H0:Hid (LR w ((w3.alloc (.cells #[ptrV p] 107)).alloc (.cells #[.slice (some ⟨w3.heap.size,0,none⟩) 1 1,.bool false,.int .i64 st] 101)) Y (w3.heap.size+1) w3.heap.size 1 m ch st 0 [p]):=by
    have hz:=g0.size;have e9:=c9.size;refine ⟨?_,(g0.alloc _).alloc _,by simpa using zG.nil⟩
    have:=Ai.new (X:=fun b=>w.heap.size<=b) (Y:=Y) (st:=st) f8 (fun b hb _=>by
     rcases hb with hb | hb
     ·exact .inr hb
     ·exact .inl (by omega)) (fun b hb=>by omega) (fun b hb=>by have:=e0.out b hb;omega)
    simpa using this
   clear f8
   go_wp2_with fail
   generalize i5:(w3.alloc (.cells #[.pointer (some ⟨p,0,none⟩)] 107)).alloc (.cells #[.slice (some ⟨w3.heap.size,0,none⟩) 1 1,.bool false,.int .i64 st] 101)=w4;have H0:Hid (LR w w4 Y (w3.heap.size+1) w3.heap.size 1 m ch st 0 [p]):=by rw [<-i5];exact H0
   clear i5;generalize w3.heap.size+1=g at*;generalize w3.heap.size=gr0 at*;clear c0 c1 c2 c3 c4 c5 i6 g0 c9 f4 g3
   go_loopg [27] ch.length (fun gk v wr=>∃(k gr cap:Nat) (pt:List Nat),v=.int .i64 k/\k<=ch.length/\gk=ch.length - k/\Hid (LR w wr Y g gr cap m ch st k pt))
   case atStart=>exact ⟨0,gr0,1,[p],rfl,DS _,rfl,H0⟩
   clear H0
   case round=>
    obtain ⟨k,gr,cap,pt,rfl,hk,rfl,hR⟩:=hrel;have G:=hR.out.ext;have d5:=hR.out.rt;obtain ⟨p2,g8,e7,_⟩:=d5.row.last;dsimp only at g8 e7;have j6:(ch.take k).length=k:=by rw [Eu];omega
    have g6:=hR.out.ch.len300 HG.out;rw [j6] at g6;have c8:Hid (∀W,zc wr W->Calls Tryz.prog 40 #[.pointer (some ⟨g,0,none⟩)] W fun e w'=>e=.returned (.pointer (some ⟨p2,0,none⟩))/\zB W w'):=fun W hE=>last_c (w':=W) (d5.ext hE) g8 (by dsimp only;omega)
    have a5:=zh e7;have rg0:∀W,zc wr W->W.cell? ⟨g,0,none⟩=some (.slice (some ⟨gr,0,none⟩) pt.length cap):=zc.rule (d5.blk.cell (k:=0) rfl);have k6:=Bq d5.row.1;have k9:pt.length<=400:=by have:=d5.row.2.1;dsimp only at this;omega
    clear d5 g8 e7;rcases Ea k ch.length with a8 | hge
    ·obtain ⟨bc,oc,rfl,_,b5⟩:=AI i9.out a8 a8;obtain ⟨n,hn⟩:=EH (ch[k]);rw [<-hn] at b5;have q0:=zc.rule b5;have HN:=zh hn;clear b5 hn
     go_wp2_with fail
     refine (c8.out wr (zc.refl _)).mono ?_;rintro e w5 ⟨rfl,e4⟩;have b8:zc wr w5:=e4.below _;clear e4
     go_wp2_with fail
     refine (Cg w5 (a5.out.ext b8) HG.out HL.out hR.out.ch).mono ?_;rintro e w6 ⟨v6,rfl,hM⟩;have a9:zc wr w6:=b8.trans hM.ext;have HM:=zh hM.ints;clear hM b8
     go_wp2_with fail
     refine (Ay n w6 HM.out (by have:=cand_len HL.out (ch.take k);omega)).mono ?_;rintro e w7 ⟨rfl,rfl⟩;by_cases d4:n∈Bn m (ch.take k)
     ·rw [DH d4];have b2:=zh d4;clear d4;have a7:Hid (ch.take k++[n]=ch.take (k+1)):=by show _=_;rw [DL a8,HN.out]
      go_wp2_with fail
      refine DU (S:=fun _=>True) AC trivial fun zH=>?_;have e3:zc wr w6.drew:=a9.drew;refine zA 0 zH ?_;refine zA 1 zH ?_;simp only [zd,DB];refine zA 2 zH ?_;refine zA 3 zH ?_;simp only [zd,DB];refine zA 5 zH ?_;refine zA 7 zH ?_;simp only [zd,DB];refine rdA [4,6] ?_;refine Ee rfl (fun K o=>?_) ?_
      ·skip
       have hx:=e3;go_simp;clear hx;refine EI o trivial fun zH=>?_;clear o K;try simp only [zd,DB]
       refine Ae 6 fun K o=>?_
       skip
       go_simp;go_at_call 40;refine (c8.out _ e3).mono ?_;rintro e wa2 ⟨rfl,j4⟩;have g1:zc wr wa2:=e3.trans (j4.below _);go_simp;refine EI o trivial fun zH=>?_;clear o K;try simp only [zd,DB]
       refine Ae 8 fun K o=>?_
       skip
       go_simp;go_at_call 58;refine (with_c _ (a5.out.ext g1) HG.out HL.out hR.out.ch b2.out).mono ?_;rintro e wa3 ⟨q,rfl,b0,hq⟩;have HQ:=zh (push_ok (g:=g) (gr:=gr) hq g1 hR.out.rt (fun b hb=>DG G.size hb));clear hq;have e1:zc wr wa3:=g1.trans b0;clear b0;go_simp;refine EI o trivial fun zH=>?_;clear o K;try simp only [zd,DB]
       refine Ae 9 fun K o=>?_
       skip
       go_simp;refine EI o trivial fun zH=>?_;clear o K;try simp only [zd,DB]
       refine Ae 10 fun K o=>?_
       skip
       have J:=hR.out.rt.ext e1;have E:=zh J;have a2:wa3.cell? ⟨g,0,none⟩=some (.slice (some ⟨gr,0,none⟩) pt.length cap):=J.blk.cell (k:=0) rfl;have a3:wa3.frozen? ⟨g,0,none⟩=false:=J.blk.frozen 0;clear J;refine step_append_lies (P:=Tryz.prog) _ (by rfl) _ _ 99 (by rfl) 0 107 i0 (.pointer none) 1 8 Tryz.underlying99 IF.out IZ0.out IZ1.out IZ2.out rfl (by decide) (.slice (some ⟨gr,0,none⟩) pt.length cap) pt.length _ (by rfl) (E.out.row.1.alloc _) ⟨wa3.heap.size,0,none⟩ 1 1 [ptrV q] (by rfl) rfl (cell_one_new _ _ _) (by simp [ptrV,Value.oneCell']) (by decide) (by unfold maxLen;omega) (by omega) (DS _) (wa3.heap.size+1) (by simp) ?_;intro g5 c5 w9 U hg hv _;obtain ⟨gr',cap',g9,B,O⟩:=E.out.push HQ.out (fun b hb=>DG G.size (DG e1.size hb)) (fun b hb=>Ef (e0.out b hb) (DG G.size e1.size)) U hg (by rcases hv with hv | hv;exact .inl hv.symm;exact .inr (congrArg some hv));have D:w9.heap[g]?=wa3.heap[g]?:=(hg.block g (by have:=za E.out.blk;simp;omega) (fun e=>E.out.ne (by injection e))).trans (DW _ _ _ (za E.out.blk));have e2:w9.cell? ⟨g,0,none⟩=some (.slice (some ⟨gr,0,none⟩) pt.length cap):=(DT D).trans a2;have e6:w9.frozen? ⟨g,0,none⟩=false:=(Ec (a:=⟨g,0,none⟩) D).trans a3;have b1:Hid (zc w (w9.setCell ⟨g,0,none⟩ (.slice (some ⟨g5,0,none⟩) (pt.length+1) c5))):=Below.trans (G.trans e1) (O.below (DG G.size e1.size) (fun b hb=>hb));have a1:=zh B;clear U hg hv B O D a2 a3;refine EI o trivial fun zH=>?_;clear o K;try simp only [zd,DB]
       refine Ae 11 fun K o=>?_
       skip
       go_simp;refine EI o trivial fun zH=>?_;clear o K;try simp only [zd,DB]
       refine Ae 12 fun K o=>?_
       skip
       go_simp;refine EI o trivial fun zH=>?_;clear o K;try simp only [zd,DB]
       refine Ae 13 fun K o=>?_
       skip
       go_simp;refine EI o trivial fun zH=>?_;clear o K;try simp only [zd,DB]
       refine Eh (by kernel_rfl) ?_ _
       go_wp2_with fail
       go_roundg (ch.length - (k+1))
       case measure=>omega
       case rel=>exact ⟨k+1,_,_,_,by go_num,a8,rfl,⟨by have:=a1.out;rwa [a7.out] at this,b1.out,by rw [<-a7.out];exact .snoc hR.out.ch b2.out⟩⟩
      refine Ee rfl (fun K o=>?_) .nil
      skip
      go_simp;go_at_call 40;refine (c8.out _ e3).mono ?_;rintro e wa9 ⟨rfl,b6⟩;have b3:zc wr wa9:=e3.trans (b6.below _);go_simp;refine EI o trivial fun zH=>?_;clear o K;try simp only [zd,DB]
      refine rdA [4,8] ?_;refine Ee rfl (fun K o=>?_) ?_
      ·skip
       have hx:=b3;go_simp;clear hx;refine EI o trivial fun zH=>?_;clear o K;try simp only [zd,DB]
       refine Ae 8 fun K o=>?_
       skip
       go_simp;go_at_call 58;refine (with_c _ (a5.out.ext b3) HG.out HL.out hR.out.ch b2.out).mono ?_;rintro e wa11 ⟨q,rfl,b0,hq⟩;have HQ:=zh (push_ok (g:=g) (gr:=gr) hq b3 hR.out.rt (fun b hb=>DG G.size hb));clear hq;have a6:zc wr wa11:=b3.trans b0;clear b0;go_simp;refine EI o trivial fun zH=>?_;clear o K;try simp only [zd,DB]
       refine Ae 9 fun K o=>?_
       skip
       go_simp;refine EI o trivial fun zH=>?_;clear o K;try simp only [zd,DB]
       refine Ae 10 fun K o=>?_
       skip
       have J:=hR.out.rt.ext a6;have E:=zh J;have a2:wa11.cell? ⟨g,0,none⟩=some (.slice (some ⟨gr,0,none⟩) pt.length cap):=J.blk.cell (k:=0) rfl;have a3:wa11.frozen? ⟨g,0,none⟩=false:=J.blk.frozen 0;clear J;refine step_append_lies (P:=Tryz.prog) _ (by rfl) _ _ 99 (by rfl) 0 107 i0 (.pointer none) 1 8 Tryz.underlying99 IF.out IZ0.out IZ1.out IZ2.out rfl (by decide) (.slice (some ⟨gr,0,none⟩) pt.length cap) pt.length _ (by rfl) (E.out.row.1.alloc _) ⟨wa11.heap.size,0,none⟩ 1 1 [ptrV q] (by rfl) rfl (cell_one_new _ _ _) (by simp [ptrV,Value.oneCell']) (by decide) (by unfold maxLen;omega) (by omega) (DS _) (wa11.heap.size+1) (by simp) ?_;intro g5 c5 w9 U hg hv _;obtain ⟨gr',cap',g9,B,O⟩:=E.out.push HQ.out (fun b hb=>DG G.size (DG a6.size hb)) (fun b hb=>Ef (e0.out b hb) (DG G.size a6.size)) U hg (by rcases hv with hv | hv;exact .inl hv.symm;exact .inr (congrArg some hv));have D:w9.heap[g]?=wa11.heap[g]?:=(hg.block g (by have:=za E.out.blk;simp;omega) (fun e=>E.out.ne (by injection e))).trans (DW _ _ _ (za E.out.blk));have e2:w9.cell? ⟨g,0,none⟩=some (.slice (some ⟨gr,0,none⟩) pt.length cap):=(DT D).trans a2;have e6:w9.frozen? ⟨g,0,none⟩=false:=(Ec (a:=⟨g,0,none⟩) D).trans a3;have b1:Hid (zc w (w9.setCell ⟨g,0,none⟩ (.slice (some ⟨g5,0,none⟩) (pt.length+1) c5))):=Below.trans (G.trans a6) (O.below (DG G.size a6.size) (fun b hb=>hb));have a1:=zh B;clear U hg hv B O D a2 a3;refine EI o trivial fun zH=>?_;clear o K;try simp only [zd,DB]
       refine Ae 11 fun K o=>?_
       skip
       go_simp;refine EI o trivial fun zH=>?_;clear o K;try simp only [zd,DB]
       refine Ae 12 fun K o=>?_
       skip
       go_simp;refine EI o trivial fun zH=>?_;clear o K;try simp only [zd,DB]
       refine Ae 13 fun K o=>?_
       skip
       go_simp;refine EI o trivial fun zH=>?_;clear o K;try simp only [zd,DB]
       refine Eh (by kernel_rfl) ?_ _
       go_wp2_with fail
       go_roundg (ch.length - (k+1))
       case measure=>omega
       case rel=>exact ⟨k+1,_,_,_,by go_num,a8,rfl,⟨by have:=a1.out;rwa [a7.out] at this,b1.out,by rw [<-a7.out];exact .snoc hR.out.ch b2.out⟩⟩
      refine Ee rfl (fun K o=>?_) .nil
      skip
      go_simp;go_at_call 58;refine (with_c _ (a5.out.ext b3) HG.out HL.out hR.out.ch b2.out).mono ?_;rintro e wa17 ⟨q,rfl,b0,hq⟩;have HQ:=zh (push_ok (g:=g) (gr:=gr) hq b3 hR.out.rt (fun b hb=>DG G.size hb));clear hq;have M:zc wr wa17:=b3.trans b0;clear b0;go_simp;refine EI o trivial fun zH=>?_;clear o K;try simp only [zd,DB]
      refine rdA [4,9] ?_;refine Ee rfl (fun K o=>?_) ?_
      ·skip
       have hx:=M;go_simp;clear hx;refine EI o trivial fun zH=>?_;clear o K;try simp only [zd,DB]
       refine Ae 9 fun K o=>?_
       skip
       go_simp;refine EI o trivial fun zH=>?_;clear o K;try simp only [zd,DB]
       refine Ae 10 fun K o=>?_
       skip
       have J:=hR.out.rt.ext M;have E:=zh J;have a2:wa17.cell? ⟨g,0,none⟩=some (.slice (some ⟨gr,0,none⟩) pt.length cap):=J.blk.cell (k:=0) rfl;have a3:wa17.frozen? ⟨g,0,none⟩=false:=J.blk.frozen 0;clear J;refine step_append_lies (P:=Tryz.prog) _ (by rfl) _ _ 99 (by rfl) 0 107 i0 (.pointer none) 1 8 Tryz.underlying99 IF.out IZ0.out IZ1.out IZ2.out rfl (by decide) (.slice (some ⟨gr,0,none⟩) pt.length cap) pt.length _ (by rfl) (E.out.row.1.alloc _) ⟨wa17.heap.size,0,none⟩ 1 1 [ptrV q] (by rfl) rfl (cell_one_new _ _ _) (by simp [ptrV,Value.oneCell']) (by decide) (by unfold maxLen;omega) (by omega) (DS _) (wa17.heap.size+1) (by simp) ?_;intro g5 c5 w9 U hg hv _;obtain ⟨gr',cap',g9,B,O⟩:=E.out.push HQ.out (fun b hb=>DG G.size (DG M.size hb)) (fun b hb=>Ef (e0.out b hb) (DG G.size M.size)) U hg (by rcases hv with hv | hv;exact .inl hv.symm;exact .inr (congrArg some hv));have D:w9.heap[g]?=wa17.heap[g]?:=(hg.block g (by have:=za E.out.blk;simp;omega) (fun e=>E.out.ne (by injection e))).trans (DW _ _ _ (za E.out.blk));have e2:w9.cell? ⟨g,0,none⟩=some (.slice (some ⟨gr,0,none⟩) pt.length cap):=(DT D).trans a2;have e6:w9.frozen? ⟨g,0,none⟩=false:=(Ec (a:=⟨g,0,none⟩) D).trans a3;have b1:Hid (zc w (w9.setCell ⟨g,0,none⟩ (.slice (some ⟨g5,0,none⟩) (pt.length+1) c5))):=Below.trans (G.trans M) (O.below (DG G.size M.size) (fun b hb=>hb));have a1:=zh B;clear U hg hv B O D a2 a3;refine EI o trivial fun zH=>?_;clear o K;try simp only [zd,DB]
       refine Ae 11 fun K o=>?_
       skip
       go_simp;refine EI o trivial fun zH=>?_;clear o K;try simp only [zd,DB]
       refine Ae 12 fun K o=>?_
       skip
       go_simp;refine EI o trivial fun zH=>?_;clear o K;try simp only [zd,DB]
       refine Ae 13 fun K o=>?_
       skip
       go_simp;refine EI o trivial fun zH=>?_;clear o K;try simp only [zd,DB]
       refine Eh (by kernel_rfl) ?_ _
       go_wp2_with fail
       go_roundg (ch.length - (k+1))
       case measure=>omega
       case rel=>exact ⟨k+1,_,_,_,by go_num,a8,rfl,⟨by have:=a1.out;rwa [a7.out] at this,b1.out,by rw [<-a7.out];exact .snoc hR.out.ch b2.out⟩⟩
      refine Ee rfl (fun K o=>?_) .nil
      skip
      go_simp;refine EI o trivial fun zH=>?_;clear o K;try simp only [zd,DB]
      refine Ae 4 fun K o=>?_
      skip
      have hx:=(M.alloc (.cells #[.pointer (some ⟨q,0,none⟩)] 107));go_simp;clear hx;refine EI o trivial fun zH=>?_;clear o K;try simp only [zd,DB]
      refine Ae 10 fun K o=>?_
      skip
      have J:=hR.out.rt.ext M;have E:=zh J;have a2:wa17.cell? ⟨g,0,none⟩=some (.slice (some ⟨gr,0,none⟩) pt.length cap):=J.blk.cell (k:=0) rfl;have a3:wa17.frozen? ⟨g,0,none⟩=false:=J.blk.frozen 0;clear J;refine step_append_lies (P:=Tryz.prog) _ (by rfl) _ _ 99 (by rfl) 0 107 i0 (.pointer none) 1 8 Tryz.underlying99 IF.out IZ0.out IZ1.out IZ2.out rfl (by decide) (.slice (some ⟨gr,0,none⟩) pt.length cap) pt.length _ (by rfl) (E.out.row.1.alloc _) ⟨wa17.heap.size,0,none⟩ 1 1 [ptrV q] (by rfl) rfl (cell_one_new _ _ _) (by simp [ptrV,Value.oneCell']) (by decide) (by unfold maxLen;omega) (by omega) (DS _) (wa17.heap.size+1) (by simp) ?_;intro g5 c5 w9 U hg hv _;obtain ⟨gr',cap',g9,B,O⟩:=E.out.push HQ.out (fun b hb=>DG G.size (DG M.size hb)) (fun b hb=>Ef (e0.out b hb) (DG G.size M.size)) U hg (by rcases hv with hv | hv;exact .inl hv.symm;exact .inr (congrArg some hv));have D:w9.heap[g]?=wa17.heap[g]?:=(hg.block g (by have:=za E.out.blk;simp;omega) (fun e=>E.out.ne (by injection e))).trans (DW _ _ _ (za E.out.blk));have e2:w9.cell? ⟨g,0,none⟩=some (.slice (some ⟨gr,0,none⟩) pt.length cap):=(DT D).trans a2;have e6:w9.frozen? ⟨g,0,none⟩=false:=(Ec (a:=⟨g,0,none⟩) D).trans a3;have b1:Hid (zc w (w9.setCell ⟨g,0,none⟩ (.slice (some ⟨g5,0,none⟩) (pt.length+1) c5))):=Below.trans (G.trans M) (O.below (DG G.size M.size) (fun b hb=>hb));have a1:=zh B;clear U hg hv B O D a2 a3;refine EI o trivial fun zH=>?_;clear o K;try simp only [zd,DB]
      refine Ae 11 fun K o=>?_
      skip
      go_simp;refine EI o trivial fun zH=>?_;clear o K;try simp only [zd,DB]
      refine Ae 12 fun K o=>?_
      skip
      go_simp;refine EI o trivial fun zH=>?_;clear o K;try simp only [zd,DB]
      refine Ae 13 fun K o=>?_
      skip
      go_simp;refine EI o trivial fun zH=>?_;clear o K;try simp only [zd,DB]
      refine Eh (by kernel_rfl) ?_ _
      go_wp2_with fail
      go_roundg (ch.length - (k+1))
      case measure=>omega
      case rel=>exact ⟨k+1,_,_,_,by go_num,a8,rfl,⟨by have:=a1.out;rwa [a7.out] at this,b1.out,by rw [<-a7.out];exact .snoc hR.out.ch b2.out⟩⟩
     ·rw [DI d4]
      have a0:loadE m ch st=51:=by
       rw [d8.out]
       have:isChB m ch=false:=by
        rw [Bool.eq_false_iff];intro h;have h1:=(AV.1 h).at a8;rw [<-HN.out] at h1;exact d4 h1
       rw [this];rfl
      have Q:BU w Y m ch st (.returned (.tuple #[.pointer none,.int .i64 51])) w6:=⟨.pointer none,by rw [a0],G.trans a9,.inl ⟨by rw [a0];decide,rfl⟩⟩;have I:=zh Q;clear Q a0 d4
      go_wp2_with fail
      go_ret2
      exact I.out
    ·have j5:k=ch.length:=by omega
     subst j5;have f1:Hid (ch.take ch.length=ch):=DP;have c7:Hid (zG m ch):=by have:=hR.out.ch;rwa [f1.out] at this
     have g4:isChB m ch=true:=AV.2 c7.out;rw [g4] at d8;have l1:=zh g4;clear g4;rw [f1.out] at a5;by_cases V:ch=[]
     ·have f5:decide ((0:Int)<(ch.length:Int))=false:=by rw [V];rfl
      have e9:((ch.length:Int)==0)=true:=by rw [V];rfl
      have k2:decide (0<ch.length)=false:=by rw [V];rfl
      have k3:decide (ch.length=0)=true:=by rw [V];rfl
      have f6:=zh V;have d9:Hid (loadE m ch st=0):=by show _=_;rw [d8.out,DH V];rfl
      clear V
      go_wp2_with fail
      refine (c8.out wr (zc.refl _)).mono ?_;rintro e w8 ⟨rfl,e5⟩;have b9:zc wr w8:=zc.trans (zc.refl _) (e5.below _);clear e5
      go_wp2_with fail
      refine (CZ w8 (a5.out.ext b9) HG.out HL.out c7.out).mono ?_;rintro e w9 ⟨rfl,b6⟩;have e8:zc wr w9:=b9.trans (b6.below _);clear b6 b9;obtain ⟨cb,b4⟩:=EH (Bk m ch);rw [<-b4];have c6:=zh b4;clear b4;have B:=hR.out.rt.ext e8;have e2:w9.cell? ⟨g,1,none⟩=some (.bool false):=B.blk.cell (k:=1) rfl;have e6:w9.frozen? ⟨g,1,none⟩=false:=B.blk.frozen 1;have I:Hid (∀d,d=(loadS m ch st).done->BU w Y m ch st (.returned (.tuple #[.pointer (some ⟨g,0,none⟩),.int .i64 0])) (w9.setCell ⟨g,1,none⟩ (.bool d))):=fun d hd=>load_fin B (G.trans e8) f1.out c7.out HG.out d9.out hd
      clear B
      cases cb with
      | true=>
       go_wp2_with fail
       go_ret2
       exact I.out true (by unfold loadS;rw [<-c6.out];rfl)
      | false=>
       by_cases f2:0<st
       ·have j8:decide (0<st)=true:=DH f2
        go_wp2_with fail
        go_ret2
        exact I.out true (by unfold loadS;rw [<-c6.out,f6.out];simp [f2])
       ·have j8:decide (0<st)=false:=DI f2
        go_wp2_with fail
        go_ret2
        exact I.out false (by unfold loadS;rw [<-c6.out,f6.out];simp [f2])
     ·have i3:0<ch.length:=List.length_pos_iff.2 V;have f5:decide ((0:Int)<(ch.length:Int))=true:=DH (by omega);have e9:((ch.length:Int)==0)=false:=by rw [DR];omega
      have k2:decide (0<ch.length)=true:=DH i3;have k3:decide (ch.length=0)=false:=DI (by omega);have f9:=zh V;clear V
      go_wp2_with fail
      refine (c8.out wr (zc.refl _)).mono ?_;rintro e w5 ⟨rfl,e4⟩;have b8:zc wr w5:=e4.below _;clear e4
      go_wp2_with fail
      refine (open_c w5 (a5.out.ext b8) HG.out HL.out c7.out).mono ?_;rintro e w6 ⟨rfl,a9⟩;have a9:zc wr w6:=b8.trans a9;clear b8;obtain ⟨ob,g7⟩:=EH (Be m ch);rw [<-g7];have h6:=zh g7;clear g7
      cases ob with
      | false=>
       have a0:loadE m ch st=51:=by rw [d8.out,DI f9.out,<-h6.out];rfl
       have Q:BU w Y m ch st (.returned (.tuple #[.pointer none,.int .i64 51])) w6:=⟨.pointer none,by rw [a0],G.trans a9,.inl ⟨by rw [a0];decide,rfl⟩⟩;have I:=zh Q;clear Q a0
       go_wp2_with fail
       go_ret2
       exact I.out
      | true=>
       have d9:Hid (loadE m ch st=0):=by show _=_;rw [d8.out,DI f9.out,<-h6.out];rfl
       go_wp2_with fail
       refine (c8.out w6 a9).mono ?_;rintro e w8 ⟨rfl,e5⟩;have b9:zc wr w8:=zc.trans a9 (e5.below _);clear e5
       go_wp2_with fail
       refine (CZ w8 (a5.out.ext b9) HG.out HL.out c7.out).mono ?_;rintro e w9 ⟨rfl,b6⟩;have e8:zc wr w9:=b9.trans (b6.below _);clear b6 b9;obtain ⟨cb,b4⟩:=EH (Bk m ch);rw [<-b4];have c6:=zh b4;clear b4;have B:=hR.out.rt.ext e8;have e2:w9.cell? ⟨g,1,none⟩=some (.bool false):=B.blk.cell (k:=1) rfl;have e6:w9.frozen? ⟨g,1,none⟩=false:=B.blk.frozen 1;have I:Hid (∀d,d=(loadS m ch st).done->BU w Y m ch st (.returned (.tuple #[.pointer (some ⟨g,0,none⟩),.int .i64 0])) (w9.setCell ⟨g,1,none⟩ (.bool d))):=fun d hd=>load_fin B (G.trans e8) f1.out c7.out HG.out d9.out hd
       clear B
       cases cb with
       | true=>
        go_wp2_with fail
        go_ret2
        exact I.out true (by unfold loadS;rw [<-c6.out];rfl)
       | false=>
        go_wp2_with fail
        go_ret2
        exact I.out false (by unfold loadS;rw [<-c6.out];simp [f9.out])
def okC (m:MZ) (ch:List Int):Bool:=decide (BS m=0) && isChB m ch
def SoPost (w:World) (Y:Nat->Prop) (m:MZ) (ch:List Int) (e:Ending) (w':World):Prop:=
 ∃v,e=.returned (.tuple #[v,.bool (okC m ch)])/\zc w w'/\((okC m ch=false/\v=.pointer none)\/(okC m ch=true/\∃p,v=.pointer (some ⟨p,0,none⟩)/\Dz w' (fun b=>Y b\/w.heap.size<=b) p m ch))
theorem okC_true {m:MZ} (h:okC m ch=true):zX m/\zG m ch:=by
 unfold okC at h;rw [DQ,DO] at h;exact ⟨zX.of h.1,AV.1 h.2⟩
theorem stateOf_calls {m:MZ} (w:World) (hm:Ad w Y v m) (hl:Lens m) (d6:zl w okc vc ch) (f2:ch.length<=20000000000000):
  Calls Tryz.prog 136 #[v,vc] w (SoPost w Y m ch):=by
 have b4:=hm;obtain ⟨vfr,vup,vts,rfl,_,_,_⟩:=hm;have a5:=zh b4;clear b4;obtain ⟨Ac,cc,rfl,f1,b5⟩:=d6;have b8:=zh b5;clear b5;have HL:=zh hl;clear hl;obtain ⟨ck,a9⟩:=EH (BS m);have O:=zh a9;clear a9
 go_enter Tryz.func136,Tryz.ntmps136
 go_wp2_with fail
 generalize a2:w.alloc (.cells #[.int .i64 m.w,.int .i64 m.h,.int .i64 m.l,vfr,vup,vts] 29)=w1;have a8:zc w w1:=by rw [<-a2];exact (zc.refl w).alloc _
 have b2:zg w1 w.heap.size 29 #[.int .i64 m.w,.int .i64 m.h,.int .i64 m.l,vfr,vup,vts]:=by rw [<-a2];exact Ep _ _
 clear a2;obtain ⟨m0,m1,m2,m3,m4,m5⟩:=zw b2;have c0:=zc.rule m0;have c1:=zc.rule m1;have c2:=zc.rule m2;have c3:=zc.rule m3;have c4:=zc.rule m4;have c5:=zc.rule m5;clear m0 m1 m2 m3 m4 m5 b2;refine (By w1 (a5.out.below a8) HL.out).mono ?_;rintro e w2 ⟨rfl,a3⟩;have a3:zc w1 w2:=a3;have a7:zc w w2:=a8.trans a3;rw [<-O.out];by_cases h0:ck=0
 case neg=>
  have f3:(ck==0)=false:=by rw [DR];exact h0
  have f4:(ck != 0)=true:=by rw [bne_iff_ne];exact h0
  have B:okC m ch=false:=by unfold okC;rw [<-O.out,DI h0];rfl
  have d:SoPost w Y m ch (.returned (.tuple #[.pointer none,.bool false])) w2:=⟨.pointer none,by rw [B],a7,.inl ⟨B,rfl⟩⟩;have o:=zh d;clear d B h0
  go_wp2_with fail
  go_ret2
  exact o.out
 case pos=>
  subst h0;have HG:=zh (zX.of O.out.symm);have E:=HG.out.dim;have e0:=E.n1;have b3:=E.layer;have HD:=zh E;clear E;have a1:Hid (okC m ch=isChB m ch):=by show _=_;unfold okC;rw [<-O.out];rfl
  go_wp2_with fail
  refine (Ar m.w m.h m.l vfr vup vts w2 (by omega) (by omega)).mono ?_;rintro e w3 ⟨rfl,U⟩;have U:zc w2 w3:=U;have Q:zc w w3:=a7.trans U;have e5:zc w1 w3:=zc.trans ‹zc w1 w2› U;by_cases I:m.w*m.h*m.l<(ch.length:Int)
  ·have b1:decide (m.w*m.h*m.l<(ch.length:Int))=true:=DH I
   have B:okC m ch=false:=by
    rw [a1.out,Bool.eq_false_iff];intro h;have h1:=(AV.1 h).len HG.out;have h2:m.n=m.w*m.h*m.l:=rfl;omega
   have d:SoPost w Y m ch (.returned (.tuple #[.pointer none,.bool false])) w3:=⟨.pointer none,by rw [B],Q,.inl ⟨B,rfl⟩⟩;have o:=zh d;clear d B
   go_wp2_with fail
   go_ret2
   exact o.out
  ·have b1:decide (m.w*m.h*m.l<(ch.length:Int))=false:=DI I;have d8:ch.length<=300:=by omega
   clear I b3 e0
   go_wp2_with fail
   refine (begin_c w3 (a5.out.below Q) (by have:=HG.out.tk;omega)).mono ?_;rintro e w4 ⟨p,rfl,e1,a0⟩;have c7:zc w w4:=Q.trans e1
   have H0:Hid (Dz w4 (fun b=>Y b\/w.heap.size<=b) p m (ch.take 0)):=by
    have:=Q.size
    exact a0.weaken fun b hb=>by
     rcases hb with hb | hb
     ·exact .inl hb
     ·exact .inr (by omega)
   have V:Hid (zG m (ch.take 0)):=by show zG m (ch.take 0);simpa using zG.nil
   clear a0 b1 c0 c1 c2 c3 c4 c5
   go_wp2_with fail
   go_loopg [6,23] ch.length (fun gk v6 v wr=>∃(k p:Nat),v6=.pointer (some ⟨p,0,none⟩)/\v=.int .i64 k/\k<=ch.length/\gk=ch.length - k/\Hid (Dz wr (fun b=>Y b\/w.heap.size<=b) p m (ch.take k))/\Hid (zG m (ch.take k))/\Hid (zc w wr))
   case atStart=>exact ⟨0,p,rfl,rfl,DS _,rfl,H0,V,c7⟩
   clear H0 V
   case round=>
    obtain ⟨k,p,rfl,rfl,hk,rfl,hS,hI,hX⟩:=hrel;have M:=hX.out;rcases Ea k ch.length with J | hge
    ·obtain ⟨bc,oc,rfl,_,D⟩:=AI b8.out J J;obtain ⟨n,hn⟩:=EH (ch[k]);rw [<-hn] at D;have q0:=zc.rule D;have HN:=zh hn;clear D hn
     go_wp2_with fail
     refine (Cg wr hS.out HG.out HL.out hI.out).mono ?_;rintro e w6 ⟨v6,rfl,hM⟩;have K:zc wr w6:=hM.ext;have HM:=zh hM.ints;clear hM
     go_wp2_with fail
     refine (Ay n w6 HM.out (by have:=cand_len HL.out (ch.take k);omega)).mono ?_;rintro e w7 ⟨rfl,rfl⟩;by_cases G:n∈Bn m (ch.take k)
     ·rw [DH G];have a6:=zh G;clear G;have b0:Hid (ch.take k++[n]=ch.take (k+1)):=by show _=_;rw [DL J,HN.out]
      go_wp2_with fail
      refine (with_c w6 (hS.out.ext K) HG.out HL.out hI.out a6.out).mono ?_;rintro e w8 ⟨q,rfl,b6,hq⟩
      have HQ:Hid (Dz w8 (fun b=>Y b\/w.heap.size<=b) q m (ch.take (k+1))):=by
       have:=(M.trans K).size;rw [<-b0.out]
       exact hq.weaken fun b hb=>by
        rcases hb with hb | hb
        ·exact hb.1
        ·exact .inr (by omega)
      have c8:Hid (zG m (ch.take (k+1))):=by rw [<-b0.out];exact .snoc hI.out a6.out
      have d5:Hid (zc w w8):=M.trans (K.trans b6);clear hq b6 K M
      go_wp2_with fail
      go_roundg (ch.length - (k+1))
      case measure=>omega
      case rel=>exact ⟨k+1,q,rfl,by go_num,J,rfl,HQ,c8,d5⟩
     ·rw [DI G]
      have B:okC m ch=false:=by
       rw [a1.out,Bool.eq_false_iff];intro h;have h1:=(AV.1 h).at J;rw [<-HN.out] at h1;exact G h1
      have d:SoPost w Y m ch (.returned (.tuple #[.pointer none,.bool false])) w6:=⟨.pointer none,by rw [B],M.trans K,.inl ⟨B,rfl⟩⟩;have o:=zh d;clear d B G
      go_wp2_with fail
      go_ret2
      exact o.out
    ·have d7:k=ch.length:=by omega
     subst d7;have b9:Hid (ch.take ch.length=ch):=DP
     have d:SoPost w Y m ch (.returned (.tuple #[.pointer (some ⟨p,0,none⟩),.bool true])) wr:=by
      have h1:=hI.out;have h2:=hS.out;rw [b9.out] at h1 h2;have h3:okC m ch=true:=by rw [a1.out];exact AV.2 h1
      exact ⟨_,by rw [h3],M,.inr ⟨h3,p,rfl,h2⟩⟩
     have o:=zh d;clear d
     go_wp2_with fail
     go_ret2
     exact o.out
def AE (m:MZ) (ch:List Int):List Int:=if okC m ch=true then Bn m ch else []
theorem rCandidates_calls {m:MZ} (w:World) (hm:Ad w Y v m) (hl:Lens m) (E:zl w okc vc ch) (O:ch.length<=20000000000000):
  Calls Tryz.prog 109 #[v,vc] w fun e w'=>∃v',e=.returned v'/\Mk w w' v' (AE m ch):=by
 have G:=hm;obtain ⟨vfr,vup,vts,rfl,_,_,_⟩:=hm;have M:=zh G;clear G;have Q:=zh hl;clear hl;have K:=zh E;obtain ⟨Ac,cc,rfl,a3,_⟩:=E;obtain ⟨ok,I⟩:=EH (okC m ch);have d:=zh I;clear I
 go_enter Tryz.func109,Tryz.ntmps109
 go_wp2_with fail
 generalize J:w.alloc (.cells #[.int .i64 m.w,.int .i64 m.h,.int .i64 m.l,vfr,vup,vts] 29)=w1;have B:zc w w1:=by rw [<-J];exact (zc.refl w).alloc _
 clear J;refine (stateOf_calls w1 (M.out.below B) Q.out (K.out.below B) O).mono ?_;rintro e w2 ⟨v2,rfl,hE,hp⟩;rw [<-d.out];rw [<-d.out] at hp;have D:zc w w2:=B.trans hE;rcases hp with ⟨h1,rfl⟩ | ⟨h1,p,rfl,U⟩
 ·subst h1
  have o:Hid (Mk w w2 (.slice none 0 0) (AE m ch)):=by
   show Mk _ _ _ _;unfold AE;rw [<-d.out];exact Mk.nil' D
  go_wp2_with fail
  go_ret;exact ⟨_,rfl,o.out⟩
 ·subst h1;have HS:=zh U;clear U
  go_wp2_with fail
  refine (Cg w2 HS.out (okC_true d.out.symm).1 Q.out (okC_true d.out.symm).2).mono ?_;rintro e w3 ⟨v3,rfl,V⟩
  have o:Hid (Mk w w3 v3 (AE m ch)):=by
   show Mk _ _ _ _;unfold AE;rw [<-d.out,if_pos rfl];exact D.mono_mk V
  clear V
  go_wp2_with fail
  go_ret;exact ⟨_,rfl,o.out⟩
noncomputable def openO (m:MZ) (ch:List Int):Bool:=okC m ch && Be m ch
end
section
open Go.RowKit
theorem Dd {B:Nat} {l:List Int} (h:zY w B v l):∃A n c,v=.slice A n c:=by
 obtain ⟨A,c,e,_⟩:=AW h;exact ⟨A,_,c,e⟩
end
section
open Go.RowKit
attribute [local go_sem ↓] Go.wp_at_zero Go.wp_at_succ
theorem reachL_le (m:MZ) (t:Nat) (f us:List Int) (g:zX m):(Bv m t f us).length<=20000000000000:=by
 unfold Bv;refine DG (Eg _ _) ?_;have h1:=g.dim.n1;have d:m.n=m.w*m.h*m.l:=rfl;simp;omega
def zr (m:MZ) (ch:List Int):List (List Int):=if okC m ch=true then (Ao m ch).filter (fun p=>decide (p.length≠0)) else []
end
section
open Go.RowKit
inductive PT where
 | node (task:Int) (side:List Int) (kids:List PT)
def PT.task:PT->Int | .node t _ _=>t
def PT.side:PT->List Int | .node _ s _=>s
def PT.kids:PT->List PT | .node _ _ k=>k
def PT.zero:PT:=.node 0 [] []
def endB (m:MZ) (pp:List (List Int)) (t:Nat):Bool:=match (pp.getD t []).getLast? with
 | none=>false
 | some x=>decide (x∈(m.tasks.getD t ([],[])).2)
def curF (m:MZ) (pp:List (List Int)):Nat->Nat->Nat
 | 0,t=>t
 | f+1,t=>if t<pp.length/\endB m pp t=true then curF m pp f (t+1) else t
def AB (m:MZ) (ch:List Int):Nat:=curF m (zr m ch) (zr m ch).length 0
def headP (m:MZ) (ch:List Int) (t:Nat):List Int:=if t<(zr m ch).length then ((zr m ch).getD t []).getLast?.toList else (m.tasks.getD t ([],[])).1.filter fun n=>zm m t n && !decide (n∈ch)
noncomputable def Ce (m:MZ) (ch:List Int) (t:Nat):List Int:=reachO m t (headP m ch t) ch
noncomputable def offB (m:MZ) (ch:List Int) (t:Nat):Bool:=!((Ce m ch t).any fun n=>decide (n∈(m.tasks.getD t ([],[])).2)) && (decide (Ce m ch t≠[]) || decide (AB m ch<t))
noncomputable def cutT (m:MZ) (ch:List Int):Option Nat:=((List.range (m.tasks.length - AB m ch)).map (AB m ch+·)).find? (offB m ch)
def zR (f:Int->Nat->Int×PT×Nat):List Int->Nat->List PT->Int×List PT×Nat
 | [],k,acc=>(0,acc,k)
 | n :: l,k,acc=>if (f n k).1=0 then zR f l (f n k).2.2 (acc++[(f n k).2.1]) else ((f n k).1,[],(f n k).2.2)
noncomputable def zu (m:MZ):Nat->List Int->Nat->Int×PT×Nat
 | 0,_,k=>(53,.zero,k)
 | f+1,ch,k=>
  if m.tasks.length<=AB m ch then (51,.zero,k)
  else if 3000<k+1 then (53,.zero,k+1)
  else match cutT m ch with
   | some t=>(0,.node t (Ce m ch t) [],k+1)
   | none=>
    let r:=zR (fun n k=>zu m f (ch++[n]) k) (AE m ch) (k+1) []
    if r.1=0 then (0,.node (AB m ch) [] r.2.1,r.2.2) else (r.1,.zero,r.2.2)
noncomputable def zW (m:MZ):Int×PT:=if BS m=0 then ((zu m (m.n.toNat+2) [] 0).1,(zu m (m.n.toNat+2) [] 0).2.1) else (BS m,.zero)
mutual
def PT.size:PT->Nat
 | .node _ _ ks=>1+PT.sizeL ks
def PT.sizeL:List PT->Nat
 | []=>0
 | k :: ks=>k.size+PT.sizeL ks
end
def incB (N:Int):Int->List Int->Bool
 | _,[]=>true
 | b,x :: l=>decide (b<x) && (decide (x<N) && incB N x l)
def wallB (m:MZ) (ch:List Int) (t:Nat) (s:List Int):Bool:=s.all fun n=>(nextO m n).all fun k=>!(zm m t k && !decide (k∈ch)) || decide (k∈s)
def cutB (m:MZ) (ch:List Int) (t:Int) (s:List Int) (nk:Nat):Bool:=
 if t<AB m ch\/(m.tasks.length:Int)<=t\/(t=AB m ch/\s=[])\/nk≠0 then false
 else incB m.n (-1) s && (!(s.any fun n=>decide (n∈(m.tasks.getD t.toNat ([],[])).2)) && ((headP m ch t.toNat).all (fun n=>decide (n∈s)) && wallB m ch t.toNat s))
mutual
def holdsT (m:MZ):PT->List Int->Bool
 | .node t s ks,ch=>if m.tasks.length<=AB m ch then false else if t≠AB m ch\/s≠[] then cutB m ch t s ks.length else holdsL m ks ch (AE m ch)
def holdsL (m:MZ):List PT->List Int->List Int->Bool
 | [],_,[]=>true
 | k :: ks,ch,n :: l=>holdsT m k (ch++[n]) && holdsL m ks ch l
 | [],_,_ :: _=>false
 | _ :: _,_,[]=>false
end
theorem mem_flat_iff {x:Int}:x∈ps.flatten↔∃i,x∈ps.getD i []:=by
 rw [List.mem_flatten];constructor
 ·rintro ⟨p,hp,d⟩;obtain ⟨i,o,rfl⟩:=Ej hp;exact ⟨i,by rw [DD,DC o];exact d⟩
 ·rintro ⟨i,d⟩;by_cases o:i<ps.length
  ·exact ⟨_,getD_mem o,d⟩
  ·rw [DD,DX (by omega)] at d;cases d
structure PathR (m:MZ) (t:Nat) (p:List Int):Prop where
 hd:∀x,p.head?=some x->x∈(m.tasks.getD t ([],[])).1
 fr:∀x∈p,zm m t x=true
 nb:∀k x y,p[k]?=some x->p[k+1]?=some y->y∈zy m x
def FinP (m:MZ) (t:Nat) (p:List Int):Prop:=∃x,p.getLast?=some x/\x∈(m.tasks.getD t ([],[])).2
theorem PathR.nil (m:MZ) (t:Nat):PathR m t []:=⟨(fun x h=>by cases h),(fun x h=>by cases h),(fun k x y h=>by simp at h)⟩
theorem PathR.snoc {m:MZ} {t:Nat} {p:List Int} {n:Int} (h:PathR m t p) (hf:zm m t n=true) (h0:p=[]->n∈(m.tasks.getD t ([],[])).1) (h1:∀x,p.getLast?=some x->n∈zy m x):PathR m t (p++[n]):=by
 refine ⟨fun x hx=>?_,fun x hx=>?_,fun k x y hx d=>?_⟩
 ·cases p with
  | nil=>
   have:n=x:=by simpa using hx
   subst this;exact h0 rfl
  | cons a p=>exact h.hd x (by simpa using hx)
 ·rcases Es.1 hx with hx | hx
  ·exact h.fr x hx
  ·rw [Ek] at hx;subst hx;exact hf
 ·rcases Ea (k+1) p.length with hk | hk
  ·rw [DJ (by omega)] at hx;rw [DJ hk] at d;exact h.nb k x y hx d
  ·have o:k+1<(p++[n]).length:=by
    rcases Ea (k+1) (p++[n]).length with h2 | h2
    ·exact h2
    ·rw [DX h2] at d;cases d
   have B:k+1=p.length:=by simp at o;omega
   rw [DK (by omega),show k+1 - p.length=0 from by omega] at d;have:n=y:=by simpa using d
   subst this;rw [DJ (by omega)] at hx;refine h1 x ?_;rw [List.getLast?_eq_getElem?,show p.length - 1=k from by omega];exact hx
structure PsR (m:MZ) (ps:List (List Int)):Prop where
 one:∀t p,ps[t]?=some p->PathR m t p
 fin:∀t p,ps[t]?=some p->t+1<ps.length->FinP m t p
theorem cand_step {m:MZ} {us:List Int} (h:n∈BV m ps us):zm m (ps.length - 1) n=true/\((ps.getD (ps.length - 1) [])=[]->n∈(m.tasks.getD (ps.length - 1) ([],[])).1)/\(∀x,(ps.getD (ps.length - 1) []).getLast?=some x->n∈zy m x):=by
 unfold BV at h
 split at h
 ·cases h
 ·split at h
  ·rename_i o
   obtain ⟨h1,d⟩:=Ez.1 h;simp only [DQ] at d;exact ⟨d.1,fun _=>mem_sortL.1 (Dt h1),fun x D=>by rw [o] at D;cases D⟩
  ·rename_i x o
   obtain ⟨h1,d⟩:=Ez.1 h;unfold zO at d;simp only [DQ] at d;refine ⟨d.1.1.1,(fun h0=>by rw [h0] at o;cases o),fun y B=>?_⟩;rw [o] at B;injection B with B;subst B;exact h1
theorem PsR.add {m:MZ} {us:List Int} (h:PsR m ps) (hp:0<ps.length) (J:n∈BV m ps us):PsR m (addN ps n):=by
 obtain ⟨h1,B,D⟩:=cand_step J;obtain ⟨qs,p,rfl,he⟩:=addN_eq hp n;rw [he];have I:(qs++[p]).length - 1=qs.length:=by simp
 have G:(qs++[p]).getD qs.length []=p:=by simp
 rw [I] at h1 B D;rw [G] at B D;refine ⟨fun t q o=>?_,fun t q o ht=>?_⟩
 ·rcases Ea t qs.length with d | hge
  ·rw [DJ d] at o;exact h.one t q (by rw [DJ d];exact o)
  ·have E:t=qs.length:=by
    rcases Ea t (qs++[p++[n]]).length with h4 | h4
    ·simp at h4;omega
    ·rw [DX h4] at o;cases o
   subst E;rw [DK (DE _),Nat.sub_self] at o;have:p++[n]=q:=by simpa using o
   subst this;exact (h.one qs.length p (by simp)).snoc h1 B D
 ·have d:t<qs.length:=by simp at ht;omega
  rw [DJ d] at o;exact h.fin t q (by rw [DJ d];exact o) (by simp;omega)
theorem PsR.with {m:MZ} {ps:List (List Int)} {us:List Int} {n:Int} (h:PsR m ps) (hp:0<ps.length) (E:n∈BV m ps us):PsR m (Bg m ps n):=by
 have h1:=h.add hp E;unfold Bg
 split
 ·rename_i hf
  have d:(addN ps n).length=ps.length:=Cr
  have hF:∀t p,(addN ps n)[t]?=some p->t+1=ps.length->FinP m t p:=fun t p ht he=>by
   have h2:=hf.1;unfold finB at h2;rw [d,show ps.length - 1=t from by omega,DD,ht] at h2;simp only [Ei] at h2
   split at h2
   ·cases h2
   ·rename_i x G
    exact ⟨x,G,of_decide_eq_true h2⟩
  refine ⟨fun t p ht=>?_,fun t p ht o=>?_⟩
  ·rcases Ea t (addN ps n).length with h2 | h2
   ·rw [DJ h2] at ht;exact h1.one t p ht
   ·rw [DK h2] at ht
    have B:p=[]:=by
     cases D:t - (addN ps n).length with
     | zero=>rw [D] at ht;simpa using ht.symm
     | succ j=>rw [D] at ht;simp at ht
    subst B;exact PathR.nil m t
  ·have h2:t<(addN ps n).length:=by simp at o;omega
   rw [DJ h2] at ht;rcases Ea (t+1) (addN ps n).length with h3 | h3
   ·exact h1.fin t p ht h3
   ·exact hF t p ht (by omega)
 ·exact h1
theorem zG.psR {m:MZ} (h:zG m ch):PsR m (Ao m ch):=by
 induction h with
 | nil=>
  rw [psOf_nil];unfold ps0
  split
  ·exact ⟨fun t p h=>by simp at h,fun t p h=>by simp at h⟩
  ·refine ⟨fun t p h=>?_,fun t p h o=>by simp at o⟩
   match t,h with
   | 0,h=>
    have:p=[]:=by simpa using h.symm
    subst this;exact PathR.nil m 0
 | @snoc ch n h d ih=>
  rw [psOf_snoc];exact ih.with (h.psOk.pn (BQ (Cl d))) d
theorem zG.all {m:MZ} (h:zG m ch) (d:Bk m ch=true):(Ao m ch).length=m.tasks.length/\(∀t p,(Ao m ch)[t]?=some p->PathR m t p/\FinP m t p):=by
 have o:=h.psR;have B:=h.psOk;unfold Bk cmpB at d;rw [EC,DO,DQ,DO] at d;rcases d with h0 | ⟨h0,h1⟩
 ·have:=B.pl;refine ⟨by omega,fun t p ht=>?_⟩;rw [DX (by omega)] at ht;cases ht
 ·refine ⟨h0,fun t p ht=>⟨o.one t p ht,?_⟩⟩
  have D:t<(Ao m ch).length:=by
   rcases Ea t (Ao m ch).length with h2 | h2
   ·exact h2
   ·rw [DX h2] at ht;cases ht
  rcases Ea (t+1) (Ao m ch).length with h2 | h2
  ·exact o.fin t p ht h2
  ·unfold finB at h1;rw [show (Ao m ch).length - 1=t from by omega,DD,ht] at h1;simp only [Ei] at h1
   split at h1
   ·cases h1
   ·rename_i x E
    exact ⟨x,E,of_decide_eq_true h1⟩
end
end Go.Proofs.YtfjjdmpndmbfoaaGreatDoor
