import Derived.Test.YtcnaogdgjkpkmaaGreatDoorWCn
import Derived.ProofKit
import Derived.OpenShut
set_option linter.unusedVariables false
set_option linter.unusedSimpArgs false
set_option maxRecDepth 100000
set_option maxHeartbeats 16000000
namespace Go.Proofs.YtcnaogdgjkpkmaaGreatDoor
variable {n t:Int} {l s:List Int} {b4:Nat}
section
open Go.RowKit
theorem hset {W:World} {g k:Nat} {x:Value}:∀b,b≠g->(W.setCell ⟨g,k,none⟩ x).heap[b]?=W.heap[b]?:=fun b d=>Di W ⟨g,k,none⟩ _ b d
theorem below_le {B g:Nat} {a b c:World} (h:Below B a b) (d:Below g b c) (o:B<=g):Below B a c:=h.trans ⟨d.os,d.tape,d.output,d.size,fun k r=>d.block k (by omega)⟩
theorem zV.wk {w:World} {ok ok':Nat->Prop} {v:Value} {p:PT} (h:zV w ok v p) (o:∀b,ok b->b<w.heap.size->ok' b):zV w ok' v p:=h.bound.keepW (fun b d r=>rfl) (fun b d=>o b d.1 d.2)
theorem case_fin29 {P:World->Prop} {W:World} {g2:Nat} {t:TypeId} {a0 a1 a2 z0 z1 z2:Value} (h:∀WZ,ze WZ g2 t #[a0,a1,a2]->Below g2 W WZ->(∀k,k<W.heap.size->k≠g2->WZ.heap[k]?=W.heap[k]?)->P WZ) (o:ze W g2 t #[z0,z1,z2]):
  P (((W.setCell ⟨g2,0,none⟩ a0).setCell ⟨g2,1,none⟩ a1).setCell ⟨g2,2,none⟩ a2):=
 h (setL g2 0 [a0,a1,a2] W) (setL_blk [a0,a1,a2] [z0,z1,z2] [] W rfl o) (Bp g2 _ 0 W) (fun k _ d=>Bq g2 k d _ 0 W)
theorem fin_wp29 {P:Program} {c:Code} {Q:Exit->Act->World->Prop} {a:Act} (w:World) (os:List Obj) (h:∀W,za w W->(∀(i:Nat) o,os[i]?=some o->W.heap[w.heap.size+i]?=some o)->c.wp P Q a W):c.wp P Q a (os.foldl World.alloc w):=h _ (Cq os w) (fun i o d=>allocs_at os w i o d)
mutual
def PT.LenN (c:Nat):PT->Prop
 | .node _ s ks=>s.length<=c/\ks.length<=c/\PT.LenNL c ks
def PT.LenNL (c:Nat):List PT->Prop
 | []=>True
 | k :: ks=>k.LenN c/\PT.LenNL c ks
end
theorem lenNL_all {c:Nat}:∀{ks:List PT},(∀k∈ks,k.LenN c)->PT.LenNL c ks
 | [],_=>by unfold PT.LenNL;exact True.intro
 | k :: ks,h=>by
  unfold PT.LenNL;exact ⟨h k (DH ..),lenNL_all fun x d=>h x (Dt _ d)⟩
end
section
open Go.ChangeShapes Go.WideShapes Go.ChangeAt Go.RowKit
theorem spot_none {w:World} {a:Addr} {v:Value} (h:w.cell? a=some v):a.spot=none:=by
 unfold World.cell? at h
 split at h
 ·split at h
  ·cases h
  ·rename_i h1
   cases d:a.spot
   ·rfl
   ·rw [d] at h1;simp at h1
 ·cases h
theorem addr_at {a:Addr} (h:a.spot=none) (n:Nat):a.add n=⟨a.block,a.off+n,none⟩:=by
 obtain ⟨b,o,s⟩:=a;simp only at h;subst h;unfold Addr.add
 split
 ·rename_i h0;subst h0;rfl
 ·rfl
theorem chooseList {β:Type} {p:Nat->β->Prop}:∀(n:Nat),(∀i,i<n->∃b,p i b)->∃l:List β,l.length=n/\∀i b,l[i]?=some b->p i b
 | 0,_=>⟨[],rfl,fun i b h=>by simp at h⟩
 | n+1,h=>by
  obtain ⟨l,r,h1⟩:=chooseList n (fun i hi=>h i (by omega));obtain ⟨b,z⟩:=h n (by omega);refine ⟨l++[b],by simp [r],fun i x d=>?_⟩;rcases Dv i l.length with hi | hi
  ·rw [Dd hi] at d;exact h1 i x d
  ·have o:i=l.length:=by
    rcases Dv i (l++[b]).length with h2 | h2
    ·simp at h2;omega
    ·rw [Dr h2] at d;cases d
   subst o;rw [De (CY _),Nat.sub_self] at d;have:b=x:=by simpa using d
   subst this;rw [r];exact z
section
variable {H:Type} {enc:TypeId×Value->H} {w:World} {base:Nat} {held:Bool} {fuel:Nat} {cs:List Value} {x:DataW H×List MemPlace}
theorem sliceOpen {t e:TypeId} {sz:Nat} (ht:Tryz.prog.underlying t=some (.slice e)) (K:Tryz.prog.cellsOf e=sz) (h0:0<sz) (h:DataW.trod enc Tryz.prog w base (fun _=>true) held fuel t cs=some x):
  ∃A len c,cs=[.slice A len c]/\len<=c/\len<=9223372036854775807/\(0<len->∃b off,A=some ⟨b,off,none⟩/\∀i,i<len->∃(cl:List Value) (n:Nat) (y:DataW H×List MemPlace),cl.length=sz/\(∀j,j<sz->w.cell? ⟨b,off+(i*sz+j),none⟩=cl[j]?)/\DataW.trod enc Tryz.prog w base (fun _=>true) held n e cl=some y):=by
 rcases DataW.trod_slice ht h with ⟨rfl,_⟩ | ⟨a,len,cap,elems,rest,n,_,rfl,_,U,Q,hm,M,G,_,_⟩
 ·exact ⟨none,0,0,rfl,CY _,by decide,fun h=>by omega⟩
 ·refine ⟨some a,len,cap,rfl,Q,by unfold maxLen at hm;omega,fun r=>?_⟩
  have each:∀i,i<len->∃(cl:List Value) (y:DataW H×List MemPlace),w.cells? base (a.add (i*sz)) sz=some cl/\DataW.trod enc Tryz.prog w base (fun _=>true) held n e cl=some y:=fun i I=>by
   have h1:=G i I;rw [K,CW (by omega)] at h1;obtain ⟨cl,h2,z⟩:=Option.bind_eq_some_iff.1 h1;exact ⟨cl,_,h2,z⟩
  have J:a.spot=none:=by
   obtain ⟨cl,y,h2,_⟩:=each 0 r;obtain ⟨_,L,D⟩:=World.cells?_some h2;have d:=D 0 h0;rw [CW (by omega)] at d;have E:=spot_none d;rw [Nat.zero_mul] at E;unfold Addr.add at E
   rwa [if_pos rfl,if_pos rfl] at E
  refine ⟨a.block,a.off,?_,fun i I=>?_⟩
  ·obtain ⟨b,o,s⟩:=a;simp only at J;subst J;rfl
  ·obtain ⟨cl,y,h2,z⟩:=each i I;obtain ⟨_,L,D⟩:=World.cells?_some h2;refine ⟨cl,n,y,L,fun j O=>?_,z⟩;have d:=D j O;rw [addr_at J,addr_at rfl] at d;rw [<-Nat.add_assoc];exact d
theorem eachOpen {α:Type} {R:Value->α->Prop} {t e:TypeId} (ht:Tryz.prog.underlying t=some (.slice e)) (J:Tryz.prog.cellsOf e=1)
  (M:∀n cl y,DataW.trod enc Tryz.prog w base (fun _=>true) held n e cl=some y->∃v a,cl=[v]/\R v a) (h:DataW.trod enc Tryz.prog w base (fun _=>true) held fuel t cs=some x):
  ∃v l,cs=[v]/\Each R w (fun _=>True) v l/\l.length<=9223372036854775807/\∀a∈l,∃u,R u a:=by
 obtain ⟨A,len,c,rfl,o,I,d⟩:=sliceOpen ht J (by omega) h;rcases DG len with rfl | hpos
 ·exact ⟨_,[],rfl,⟨[],⟨A,c,rfl,o,Aj.nil _ _ _ _⟩,fun i y r=>by simp at r⟩,by simp,fun a z=>by cases z⟩
 ·obtain ⟨b,off,rfl,D⟩:=d hpos;clear d
  obtain ⟨l,G,hp⟩:=chooseList (β:=Value×α) (p:=fun i va=>w.cell? ⟨b,off+i,none⟩=some va.1/\R va.1 va.2) len (fun i E=>by
   obtain ⟨cl,n,y,h1,h2,L⟩:=D i E;obtain ⟨v,a,rfl,O⟩:=M n cl y L;have:=h2 0 (by omega);rw [Nat.mul_one,Nat.add_zero] at this;exact ⟨(v,a),this,O⟩)
  refine ⟨_,l.map (·.2),rfl,⟨l.map (·.1),⟨_,c,by rw [DF,G],by rw [DF,G];exact o,by simp,fun _=>⟨b,off,rfl,trivial,fun j u K=>?_⟩⟩,fun i y r=>?_⟩,by rw [DF,G];exact I,fun a z=>?_⟩
  ·rw [DE] at K;obtain ⟨va,h1,rfl⟩:=Option.map_eq_some_iff.1 K;exact (hp j va h1).1
  ·rw [DE] at r;obtain ⟨va,h1,rfl⟩:=Option.map_eq_some_iff.1 r;exact ⟨va.1,by rw [DE,h1];rfl,(hp i va h1).2⟩
  ·obtain ⟨va,h1,rfl⟩:=DQ.1 z;obtain ⟨i,E,rfl⟩:=DC h1;exact ⟨_,(hp i _ (CW E)).2⟩
theorem row_of_each {α:Type} {f:α->Value} {v:Value} {l:List α} (h:Each (fun u a=>u=f a) w (fun _=>True) v l):Ay w (fun _=>True) 1 v l.length (l.map f):=by
 obtain ⟨vs,o,he⟩:=h
 have:vs=l.map f:=by
  have d:=o;obtain ⟨A,c,_,_,hA⟩:=d;have z:vs.length=l.length:=by have:=hA.1;omega
  refine List.ext_getElem? fun i=>?_
  rcases Dv i l.length with hi | hi
  ·obtain ⟨u,r,o⟩:=he i _ (CW hi);rw [r,DE,CW hi,o];rfl
  ·rw [Dr (by omega),Dr (by simp;omega)]
 rw [<-this];exact o
theorem intOpen (h:DataW.trod enc Tryz.prog w base (fun _=>true) held fuel 3 cs=some x):∃n,cs=[.int .i64 n]/\-9223372036854775808<=n/\n<=9223372036854775807:=by
 obtain ⟨k,rfl,_,d⟩:=DataW.trod_int Tryz.underlying3 h;refine ⟨k,rfl,?_⟩;have this:=d;simp only [Lit.wf,IntKind.has,Dm,Dj] at this;have e1:IntKind.i64.min=-9223372036854775808:=rfl;have e2:IntKind.i64.max=9223372036854775807:=rfl;omega
theorem cellsT24:Tryz.prog.cellsOf 24=1:=by kernel_rfl
theorem cellsT3:Tryz.prog.cellsOf 3=1:=by kernel_rfl
theorem cellsT9:Tryz.prog.cellsOf 9=1:=by kernel_rfl
theorem agg_of {v:Value} {l:List Value} (h:v.cells.toList=l) (h2:∃cs,v=.agg cs):v=.agg l.toArray:=by
 obtain ⟨cs,rfl⟩:=h2;subst h;rfl
end
end
section
open Go.RowKit
mutual
theorem lenN_lens {c:Nat} (d:c<=20000000000000):∀(p:PT),p.LenN c->p.Lens
 | .node _ s ks,h=>by
  unfold PT.LenN at h;unfold PT.Lens;exact ⟨by omega,by omega,lenNL_lens d ks h.2.2⟩
theorem lenNL_lens {c:Nat} (d:c<=20000000000000):∀(ks:List PT),PT.LenNL c ks->PT.LensL ks
 | [],_=>by unfold PT.LensL;exact True.intro
 | k :: ks,h=>by
  unfold PT.LenNL at h;unfold PT.LensL;exact ⟨lenN_lens d k h.1,lenNL_lens d ks h.2⟩
end
def nuB (b:UInt8):Prop:=b.toNat=45\/(48<=b.toNat/\b.toNat<=57)
theorem mem_dec (u:Nat):∀b∈Lib.decDigits u,nuB b:=by
 induction u using Nat.strongRecOn with
 | ind u ih=>
  intro b hb;by_cases d:u<10
  ·rw [Bn d] at hb;rw [DD.1 hb];have:=Cd d;exact .inr ⟨by omega,by omega⟩
  ·rw [dec_big d] at hb;rcases DK.1 hb with hb | hb
   ·exact ih (u / 10) (by omega) b hb
   ·rw [DD.1 hb];have:=Cd (Nat.mod_lt u (show 0<10 by decide));exact .inr ⟨by omega,by omega⟩
theorem mem_itoa (n:Int):∀b∈Lib.itoa n,nuB b:=by
 intro b hb;by_cases h:n<0
 ·rw [BU h] at hb;rcases DJ.1 hb with rfl | hb
  ·exact .inl rfl
  ·exact mem_dec _ b hb
 ·rw [AX (by omega)] at hb;exact mem_dec _ b hb
theorem itoa_ne (n:Int):Lib.itoa n≠[]:=by
 by_cases h:n<0
 ·rw [BU h];simp
 ·obtain ⟨k,-,l,d⟩:=dec_head n.toNat;rw [AX (by omega),d];simp
theorem wI_head (n:Int) (rest:List UInt8):∃b t,wI n++rest=b :: t/\nuB b:=by
 cases h:Lib.itoa n with
 | nil=>exact absurd h (itoa_ne n)
 | cons b t=>exact ⟨b,t++[59]++rest,by simp [wI,h],mem_itoa n b (by rw [h];exact DH ..)⟩
theorem cutAt_app {c:UInt8}:∀{a:List UInt8} (rest:List UInt8),c∉a->AP c (a++c :: rest)=some (a,rest)
 | [],rest,_=>by simp [AP]
 | x :: a,rest,h=>by
  have d:(x==c)=false:=by
   rw [Dn];exact fun e=>h (by rw [e];exact DH ..)
  simp only [List.cons_append,AP,d];rw [cutAt_app rest (fun hm=>h (Dt _ hm))];rfl
theorem numP_itoa {c:UInt8} (h:Cp n) (d:¬ nuB c) (rest:List UInt8):numP c (Lib.itoa n++c :: rest)=some (n,rest):=by
 rw [numP_ref,cutAt_app rest (fun hm=>d (mem_itoa n c hm)),Option.bind_some];simp only;rw [refNum_of h];rfl
theorem intF_wI (h:Cp n) (rest:List UInt8):zw (wI n++rest,false)=(n,(rest,false)):=by
 have e:wI n++rest=Lib.itoa n++59 :: rest:=by simp [wI]
 have d:=numP_itoa (c:=59) h (by unfold nuB;decide) rest;unfold zw numS;simp only [e,d];rfl
theorem elsF_wI:∀(l:List Int) (rest:List UInt8) (acc:List Int) (f:Nat),(∀x∈l,Cp x)->(l.flatMap wI++93 :: rest).length<=f+1->zZ f (l.flatMap wI++93 :: rest,false) acc=(acc++l,(93 :: rest,false))
 | [],rest,acc,0,_,_=>by simp [zZ]
 | [],rest,acc,f+1,_,_=>by
  unfold zZ;rw [if_pos (.inr rfl)];simp
 | x :: l,rest,acc,f,o,hf=>by
  obtain ⟨b,t,d,z⟩:=wI_head x (l.flatMap wI++93 :: rest);have e:(x :: l).flatMap wI++93 :: rest=wI x++(l.flatMap wI++93 :: rest):=by simp
  have r:2<=(wI x).length:=by
   cases h:Lib.itoa x with
   | nil=>exact absurd h (itoa_ne x)
   | cons b t=>simp [wI,h]
  rw [e] at hf⊢;rw [Dh] at hf;obtain ⟨f,rfl⟩:∃f',f=f'+1:=⟨f - 1,by simp at hf;omega⟩;unfold zZ
  rw [if_neg (by
   rintro (h | h)
   ·unfold zr at h;rw [d] at h;simp at h
   ·rw [d] at h;simp only [List.head?_cons,Option.some.injEq] at h;subst h
    revert z
    unfold nuB;decide),intF_wI (o x (DH ..))]
  simp only;rw [elsF_wI l rest (acc++[x]) f (fun y D=>o y (Dt _ D)) (by omega)];simp
theorem intsF_wL (h:∀x∈l,Cp x) (rest:List UInt8):zy (wL l++rest,false)=(l,(rest,false)):=by
 have e:wL l++rest=91 :: (l.flatMap wI++93 :: rest):=by simp [wL]
 unfold zy;rw [e]
 rw [if_neg (by
  rintro (h | h)
  ·simp [zr] at h
  ·simp at h)]
 simp only [List.tail_cons];rw [elsF_wI l rest [] _ h (Nat.le_succ _)];unfold intsE;rw [if_neg (by simp [zr])];simp
mutual
theorem rd_enc:∀(p:PT) (f:Nat) (rest:List UInt8),p.Ok->p.size<=f->CE f (zI p++rest,false)=(p,(rest,false))
 | .node t s ks,0,rest,_,hf=>by unfold PT.size at hf;omega
 | .node t s ks,f+1,rest,h,hf=>by
  unfold PT.Ok at h;obtain ⟨h1,h2,o,r,d⟩:=h;unfold PT.size at hf;have e:zI (.node t s ks)++rest=wI t++(wL s++(wI (ks.length:Nat)++(zC ks++rest))):=by unfold zI;simp [List.append_assoc]
  rw [e];unfold CE;rw [intF_wI h1];simp only;rw [intsF_wL h2];simp only;rw [intF_wI ⟨by omega,by omega⟩];simp only [DL];rw [rd_encs ks f rest [] d (by omega)];simp
theorem rd_encs:∀(ks:List PT) (f:Nat) (rest:List UInt8) (acc:List PT),PT.OkL ks->PT.sizeL ks<=f->zJ (CE f) ks.length (zC ks++rest,false) acc=(acc++ks,(rest,false))
 | [],f,rest,acc,_,_=>by simp [zJ,zC]
 | k :: ks,f,rest,acc,h,hf=>by
  unfold PT.OkL at h;unfold PT.sizeL at hf;rw [DV];unfold zJ zC;rw [if_neg (by simp),List.append_assoc,rd_enc k f _ h.1 (by omega)];simp only;rw [rd_encs ks f rest _ h.2 (by omega)];simp
end
mutual
theorem size_enc:∀(p:PT),p.size<=(zI p).length
 | .node t s ks=>by
  have:=sizes_enc ks;have h2:1<=(wI t).length:=by simp [wI]
  unfold PT.size zI;simp only [Dh];omega
theorem sizes_enc:∀(ks:List PT),PT.sizeL ks<=(zC ks).length
 | []=>by simp [PT.sizeL]
 | k :: ks=>by
  have:=size_enc k;have:=sizes_enc ks;unfold PT.sizeL zC;rw [Dh];omega
end
theorem decF_enc {p:PT} (h:p.Ok):decF (zI p)=some p:=by
 have e:=rd_enc p ((zI p).length+1) [] h (Nat.le_succ_of_le (size_enc p));rw [List.append_nil] at e;unfold decF;rw [e,if_neg (by simp [zr])]
theorem decR_enc {p:PT} (h:p.Ok) (d:(zI p).length<=262144):decR (zI p)=(0,p):=by
 unfold decR;rw [if_neg (by omega),decF_enc h]
theorem enc_inj {p q:PT} (h:p.Ok) (d:q.Ok) (e:zI p=zI q):p=q:=by
 have h1:=decF_enc h;rw [e,decF_enc d] at h1;injection h1 with h1;exact h1.symm
mutual
def PT.In:PT->Prop
 | .node t s ks=>Cp t/\(∀x∈s,Cp x)/\s.length<=9223372036854775807/\ks.length<=9223372036854775807/\PT.InL ks
def PT.InL:List PT->Prop
 | []=>True
 | k :: ks=>k.In/\PT.InL ks
end
theorem inL_mem:∀{ks:List PT},PT.InL ks->∀k∈ks,k.In
 | [],_,k,hk=>by cases hk
 | a :: ks,h,k,hk=>by
  unfold PT.InL at h;rcases DJ.1 hk with rfl | hk
  ·exact h.1
  ·exact inL_mem h.2 k hk
def zE:Nat->PT->PT
 | 0,.node t s _=>.node t (s.take 20) []
 | n+1,.node t s ks=>.node t (s.take 20) ((ks.take 4).map (zE n))
def capF:Nat->Nat
 | 0=>1
 | n+1=>1+4*capF n
theorem sizeL_map {f:PT->PT} {c:Nat} (hf:∀k,(f k).size<=c):∀(ks:List PT),PT.sizeL (ks.map f)<=ks.length*c
 | []=>by simp [PT.sizeL]
 | k :: ks=>by
  have:=hf k;have:=sizeL_map hf ks;simp only [List.map_cons,PT.sizeL,DV,Nat.add_mul,Nat.one_mul];omega
theorem few_size:∀(n:Nat) (p:PT),(zE n p).size<=capF n
 | 0,.node t s ks=>by simp [zE,PT.size,PT.sizeL,capF]
 | n+1,.node t s ks=>by
  have h:=sizeL_map (few_size n) (ks.take 4);have d:(ks.take 4).length<=4:=by simp;omega
  have o:=Nat.mul_le_mul_right (capF n) d;unfold zE PT.size capF;omega
theorem encPs_map {f:PT->PT} {c:Nat}:∀(ks:List PT),(∀k∈ks,(zI (f k)).length<=c)->(zC (ks.map f)).length<=ks.length*c
 | [],_=>by simp [zC]
 | k :: ks,hf=>by
  have:=hf k (DH ..);have:=encPs_map ks (fun x d=>hf x (Dt _ d));simp only [List.map_cons,zC,DV,Dh,Nat.add_mul,Nat.one_mul];omega
theorem okL_all:∀{ks:List PT},(∀k∈ks,k.Ok)->PT.OkL ks
 | [],_=>by unfold PT.OkL;trivial
 | k :: ks,h=>by
  unfold PT.OkL;exact ⟨h k (DH ..),okL_all fun x d=>h x (Dt _ d)⟩
theorem few_ok:∀(n:Nat) (p:PT),p.In->(zE n p).Ok
 | 0,.node t s ks,h=>by
  unfold PT.In at h;unfold zE PT.Ok;exact ⟨h.1,fun x o=>h.2.1 x (List.mem_of_mem_take o),by simp;omega,by simp,okL_all fun k d=>absurd d (DO)⟩
 | n+1,.node t s ks,h=>by
  unfold PT.In at h;unfold zE PT.Ok;refine ⟨h.1,fun x o=>h.2.1 x (List.mem_of_mem_take o),by simp;omega,by simp;omega,okL_all fun k d=>?_⟩;obtain ⟨q,r,rfl⟩:=DQ.1 d;exact few_ok n q (inL_mem h.2.2.2.2 q (List.mem_of_mem_take r))
theorem take_wL (h:∀x∈s,Cp x):(wL (s.take 20)).length<=442:=by
 have h1:=wIs_len (l:=s.take 20) (fun x d=>h x (List.mem_of_mem_take d));have h2:(s.take 20).length<=20:=by simp;omega
 simp only [wL,DV,Dh,DW];omega
theorem few_enc:∀(n:Nat) (p:PT),p.In->(zI (zE n p)).length<=486*capF n
 | 0,.node t s ks,h=>by
  unfold PT.In at h;have h1:=wI_len h.1;have h2:=take_wL h.2.1;have d:=wI_len (n:=0) ⟨by decide,by decide⟩;unfold zE zI zC capF;simp only [Dh,DW] at d⊢;simp;omega
 | n+1,.node t s ks,h=>by
  unfold PT.In at h;have h1:=wI_len h.1;have h2:=take_wL h.2.1;have o:(ks.take 4).length<=4:=by simp;omega
  have d:=wI_len (n:=(((ks.take 4).map (zE n)).length:Nat)) ⟨by omega,by rw [DF];omega⟩;have z:=encPs_map (f:=zE n) (c:=486*capF n) (ks.take 4) (fun k r=>few_enc n k (inL_mem h.2.2.2.2 k (List.mem_of_mem_take r)));have D:=Nat.mul_le_mul_right (486*capF n) o;unfold zE zI capF;simp only [Dh];omega
theorem few_lenN:∀(n:Nat) (p:PT),(zE n p).LenN 20
 | 0,.node t s ks=>by
  unfold zE PT.LenN;exact ⟨by simp;omega,by simp,lenNL_all fun k d=>absurd d (DO)⟩
 | n+1,.node t s ks=>by
  unfold zE PT.LenN;refine ⟨by simp;omega,by simp;omega,lenNL_all fun k d=>?_⟩;obtain ⟨q,o,rfl⟩:=DQ.1 d;exact few_lenN n q
end
section
open Go.RowKit
attribute [local go_sem ↓] Go.wp_at_zero Go.wp_at_succ
attribute [local go_sem] Oper.semAt_some
structure BC (W:World) (B:Nat) (ok:Nat->Prop) (g:Nat) (v:Value) (acc:List PT) (cs:List Value):Prop where
 own:W.ownsRow B 27 3 v acc.length cs
 each:∀(i:Nat) (hi:i<acc.length),zV W (fun b=>(ok b\/B<=b)/\b≠g/\v.ownBlock≠some b) (.agg #[cs.getD (i*3) undef,cs.getD (i*3+1) undef,cs.getD (i*3+2) undef]) acc[i]
 ne:v.ownBlock≠some g
section
variable {W W':World} {B g:Nat} {ok:Nat->Prop} {v v':Value} {acc:List PT} {cs:List Value} {p:PT} {a b c:Value}
theorem BC.nil:BC W B ok g (.slice none 0 0) [] []:=⟨World.ownsRow_nil _ _ _ _,fun i d=>absurd d (by simp),by simp [Value.ownBlock]⟩
theorem BC.same (h:BC W B ok g v acc cs) (r:∀b,b<W.heap.size->b≠g->W'.heap[b]?=W.heap[b]?):BC W' B ok g v acc cs:=
 ⟨own_keep h.own fun k o=>r k (World.ownsRow.lt h.own k o).2 (fun e=>by subst e;exact h.ne o),fun i D=>(h.each i D).keepW (fun b z d=>r b d z.2.1) fun _ h=>h,h.ne⟩
theorem BC.app (h:BC W B ok g v acc cs) (hp:zV W (fun b=>(ok b\/B<=b)/\b≠g/\v.ownBlock≠some b) (.agg #[a,b,c]) p) (D:g<W.heap.size) (K:W'.ownsRow B 27 3 v' (acc.length+1) (cs++[a,b,c])) (G:W.grownBy W' v.ownBlock)
  (L:v'.ownBlock=v.ownBlock\/v'.ownBlock=some W.heap.size):BC W' B ok g v' (acc++[p]) (cs++[a,b,c]):=by
 have o:cs.length=acc.length*3:=h.own.1
 have z:∀k,k<W.heap.size->v.ownBlock≠some k->v'.ownBlock≠some k:=fun k d h1=>by
  rcases L with h2 | h2
  ·rw [h2];exact h1
  ·rw [h2];intro e;injection e with e;omega
 refine ⟨by rw [Dh];exact K,fun i I=>?_,z g D h.ne⟩;by_cases J:i<acc.length
 ·rw [BK (by omega),BK (by omega),BK (by omega),List.getElem_append_left J];exact (h.each i J).bound.keepW (fun k d r=>G.block k r (fun e=>d.1.2.2 e.symm)) (fun k d=>⟨d.1.1,d.1.2.1,z k d.2 d.1.2.2⟩)
 ·have E:i=acc.length:=by rw [Dh,Dx] at I;omega
  subst E;have e0:(cs++[a,b,c]).getD (acc.length*3) undef=a:=by rw [CX,De (by omega),o,Nat.sub_self];rfl
  have e1:(cs++[a,b,c]).getD (acc.length*3+1) undef=b:=by rw [CX,De (by omega),o,Nat.add_sub_cancel_left];rfl
  have e2:(cs++[a,b,c]).getD (acc.length*3+2) undef=c:=by rw [CX,De (by omega),o,Nat.add_sub_cancel_left];rfl
  rw [e0,e1,e2];have:(acc++[p])[acc.length]'I=p:=by simp
  rw [this];exact hp.bound.keepW (fun k d r=>G.block k r (fun e=>d.1.2.2 e.symm)) (fun k d=>⟨d.1.1,d.1.2.1,z k d.2 d.1.2.2⟩)
end
theorem few_zero {ks:List PT}:zE 0 (.node t s ks)=.node t (s.take 20) []:=rfl
theorem few_succ {n:Nat} {ks:List PT}:zE (n+1) (.node t s ks)=.node t (s.take 20) ((ks.take 4).map (zE n)):=rfl
def kn (n:Nat) (ks:List PT):Nat:=if n=0 then 0 else min ks.length 4
theorem few_eq (n:Nat) (t:Int) (s:List Int) (ks:List PT):zE n (.node t s ks)=.node t (s.take 20) ((ks.take (kn n ks)).map (zE (n - 1))):=by
 cases n with
 | zero=>simp [few_zero,kn]
 | succ n=>
  rw [few_succ]
  have:ks.take (kn (n+1) ks)=ks.take 4:=by
   unfold kn;rw [if_neg (by omega)];by_cases h:ks.length<=4
   ·rw [Nat.min_eq_left h,Dl,List.take_of_length_le h]
   ·rw [Nat.min_eq_right (by omega)]
  rw [this];rfl
theorem ints_take29 {w:World} {ok:Nat->Prop} {A:Option Addr} {n c N:Nat} (h:zk w ok (.slice A n c) l) (E:N<=n):zk w ok (.slice A N c) (l.take N):=by
 obtain ⟨A',c',e,G,I,D⟩:=h;injection e with e1 e2 e3;subst e1 e2 e3;have o:(l.take N).length=N:=by rw [List.length_take];omega
 refine ⟨A,c,by rw [o],by omega,by rw [DF,Nat.mul_one],fun hp=>?_⟩;obtain ⟨b,off,e,z,r⟩:=D (by omega);refine ⟨b,off,e,z,fun j u d=>r j u ?_⟩;rw [List.map_take] at d;rw [List.getElem?_take] at d
 split at d
 ·exact d
 ·cases d
def FewR (w:World) (ok:Nat->Prop) (p:PT) (e:Ending) (w':World):Prop:=∃v',e=.returned v'/\za w w'/\zV w' (fun b=>ok b\/w.heap.size<=b) v' p
theorem few_fin {w w1 wz WZ:World} {ok:Nat->Prop} {v:Value} {p:PT} (d:za w w1) (I:w.heap.size<=b4/\b4<w1.heap.size) (z:za w1 wz) (E:zV wz (fun b=>(ok b/\b<w.heap.size)\/w1.heap.size<=b) v p) (o:Below b4 wz WZ) (G:∀k,k<wz.heap.size->k≠b4->WZ.heap[k]?=wz.heap[k]?):
  FewR w ok p (.returned v) WZ:=
 ⟨v,rfl,below_le (d.trans z) o I.1,E.keepW (fun b r D=>G b D (by rcases r with ⟨_,h⟩ | h <;> omega)) (fun b r=>by rcases r with ⟨h,_⟩ | h;exact .inl h;exact .inr (by omega))⟩
theorem few_end {a:Act} {W:World} {x y z:Value} {R:Ending->World->Prop} (o:a.tmps[4]?=some (.pointer (some ⟨b4,0,none⟩))) (r:a.defers=[]) (d:ze W b4 27 #[x,y,z]) (h:R (.returned (.agg #[x,y,z])) W):bodyPost Tryz.prog Tryz.f11 R Exit.ret a W:=by
 have c0:=d.cell (k:=0) rfl;have c1:=d.cell (k:=1) rfl;have c2:=d.cell (k:=2) rfl;have e:a.tmps.getD 4 undef=.pointer (some ⟨b4,0,none⟩):=by rw [Array.getD_eq_getD_getElem?,o];rfl
 exact DM (v:=.agg #[x,y,z]) (by simp [results,Tryz.results11,go_sem,o,e,c0,c1,c2]) r h
theorem few_calls:∀(N n:Nat) (ok:Nat->Prop) (v:Value) (p:PT) (w:World),n<N->n<=4->zV w ok v p->p.In->Calls Tryz.prog 11 #[v,.int .i64 n] w (FewR w ok (zE n p))
 | 0,n,ok,v,p,w,hN,_,_,_=>by omega
 | N+1,n,ok,v,.node t s ks,w,hN,n4,h,j3=>by
  have IH:=zh (few_calls N)
  cases h.bound with
  | mk hs hk he=>
   rename_i vs vk0 cs0
   unfold PT.In at j3;obtain ⟨-,-,n5,n3,f1⟩:=j3;have k5:=zh (inL_mem f1);have HS:=zh hs;have k4:=zh he;obtain ⟨As,cs',rfl,m9,-⟩:=hs;obtain ⟨Ak,ck,rfl,m8,j6⟩:=hk;have l0:=zh j6;have i7:Hid (zE n (.node t s ks)=.node t (s.take 20) ((ks.take (kn n ks)).map (zE (n - 1)))):=few_eq n t s ks;rw [i7.out]
   have G:Hid (kn n ks<=ks.length/\kn n ks<=4/\(∀j,j<kn n ks->0<n)/\(0<n->∀j,j<ks.length->j<4->j<kn n ks)):=by
    (show _/\_)
    unfold kn
    split
    ·exact ⟨by omega,by omega,fun j h=>by omega,fun h=>by omega⟩
    ·exact ⟨by omega,by omega,fun j _=>by omega,fun _ j h1 h2=>by omega⟩
   obtain ⟨K,d⟩:=DX (kn n ks);rw [<-d] at G⊢;clear j6 he d i7 h f1
   go_enter Tryz.func11,Tryz.ntmps11
   go_upto_region 1 with fail;refine fin_wp w [_,_] fun w1 g4 hB=>?_
   have O:ze w1 w.heap.size 27 #[.int .i64 t,.slice As s.length cs',.slice Ak ks.length ck]:=hB 0 _ rfl;have e6:ze w1 (w.heap.size+1) 27 #[.int .i64 0,.slice none 0 0,.slice none 0 0]:=hB 1 _ rfl;have e0:=zb e6;obtain ⟨b4,a2⟩:∃b,b=w.heap.size+1:=⟨_,rfl⟩;obtain ⟨b2,h7⟩:∃b,b=w.heap.size:=⟨_,rfl⟩;rw [<-h7] at O;rw [<-a2] at e6 e0;rw [<-a2,<-h7];have Q:=zh g4;have c0:Hid (w.heap.size<=b4/\b4<w1.heap.size):=⟨by omega,e0⟩;have HZ:=zh e6;have p0:=za.rule (O.cell (k:=0) rfl);have p1:=za.rule (O.cell (k:=1) rfl);have p2:=za.rule (O.cell (k:=2) rfl);obtain ⟨S,hS⟩:∃S:Nat,S=min s.length 20:=⟨_,rfl⟩;have l8:min (s.length:Int) 20=(S:Int):=by omega
   have l6:(S:Int)<=(s.length:Int):=by omega
   have l7:(S:Int)<=(cs':Int):=by omega
   have l5:(0:Int)<=(S:Int):=by omega
   have l2:Hid (s.take 20=s.take S):=by
    (show _=_)
    rw [hS];by_cases hh:s.length<=20
    ·rw [Nat.min_eq_left hh,Dl,List.take_of_length_le hh]
    ·rw [Nat.min_eq_right (by omega)]
   have l1:Hid (zk w1 (fun b=>ok b/\b<w.heap.size) (.slice As S cs') (s.take S)):=ints_take29 (HS.out.below g4) (by omega);have i8:Hid ((s.take S).length=S):=by (show _=_);rw [List.length_take];omega
   have z:za w1 w1:=za.refl w1;clear g4 hB O e6 e0 a2 h7 hS;refine Dp (S:=(fun W=>za w1 W)) An (z.drew) fun zH=>?_;have D:za w1 w1.drew:=zH;generalize w1.drew=wd at zH D⊢;refine zj 0 zH ?_;refine zj 1 zH ?_;simp only [zc,CV];refine zj 2 zH ?_;refine zj 3 zH ?_;simp only [zc,CV];refine zj 4 zH ?_;refine zj 5 zH ?_;simp only [zc,CV];refine zj 6 zH ?_;refine zj 7 zH ?_;simp only [zc,CV];refine zj 8 zH ?_;refine zj 9 zH ?_;simp only [zc,CV];refine Aa 10 fun K d=>?_;go_simp;have b7:=ze.new wd #[.int .i64 0,.slice none 0 0,.slice none 0 0] 27 (g:=wd.heap.size) rfl;have g8:za w1 (wd.alloc (.cells #[.int .i64 0,.slice none 0 0,.slice none 0 0] 27)):=za.alloc zH _;have I:Hid (w1.heap.size<=wd.heap.size):=Below.size zH;generalize wd.alloc _=wg at*;generalize wd.heap.size=gp at*;go_simp;refine DY d (g8) fun zH=>?_;clear d K;try simp only [zc,CV]
   refine Aa 11 fun K d=>?_;have y0:=b7.cell (k:=0) rfl;have y1:=b7.cell (k:=1) rfl;have y2:=b7.cell (k:=2) rfl;have yf:∀j,wg.frozen? ⟨gp,j,none⟩=false:=fun j=>b7.frozen j
   go_simp;have g7:za w1 (((wg.setCell ⟨gp,0,none⟩ (.int .i64 t)).setCell ⟨gp,1,none⟩ (.slice As S cs')).setCell ⟨gp,2,none⟩ (.slice none 0 0)):=((Below.setCell g8 (p:=⟨gp,0,none⟩) I.out _).setCell (p:=⟨gp,1,none⟩) I.out _).setCell (p:=⟨gp,2,none⟩) I.out _;have f6:Hid (ze (((wg.setCell ⟨gp,0,none⟩ (.int .i64 t)).setCell ⟨gp,1,none⟩ (.slice As S cs')).setCell ⟨gp,2,none⟩ (.slice none 0 0)) gp 27 #[.int .i64 t,.slice As S cs',.slice none 0 0]):=((b7.set (k:=0) _).set (k:=1) _).set (k:=2) _;refine DY d g7 fun zH=>?_;clear d K y0 y1 y2 yf;have f9:=zh g7;generalize ((wg.setCell ⟨gp,0,none⟩ (.int .i64 t)).setCell ⟨gp,1,none⟩ (.slice As S cs')).setCell ⟨gp,2,none⟩ (.slice none 0 0)=w3 at f6 f9⊢;clear zH D b7 g8 g7;refine DB (by kernel_rfl) ?_ _;clear z l8 l6 l7 l5
   go_wp2_with fail
   go_loopw [6] (fun i wr=>∃(j:Nat) (vk:Value) (cs:List Value),i=.int .i64 j/\j<=K/\Hid (za w1 wr)/\Hid (ze wr gp 27 #[.int .i64 t,.slice As S cs',vk])/\Hid (BC wr w1.heap.size (fun b=>ok b/\b<w.heap.size) gp vk ((ks.take j).map (zE (n - 1))) cs)) (fun i _=>K - (intOf i).toNat)
   case atStart=>exact ⟨0,.slice none 0 0,[],rfl,Do _,f9.out,f6.out,BC.nil⟩
   clear f9 f6
   case round=>
    obtain ⟨j,vk,cs,rfl,hj,l9,o,E⟩:=hrel;obtain ⟨wq,rfl⟩:∃W:World,W=wr:=⟨_,rfl⟩;have z:za w1 wq:=l9.out;by_cases d7:j<K
    ·have L:j<ks.length:=by have:=G.out.1;omega
     have h4:(j:Int)<4:=by have:=G.out.2.1;omega
     have e7:0<n:=G.out.2.2.1 j d7;have d1:decide ((j:Int)<(ks.length:Int))=true:=Db (by omega);have d2:decide ((j:Int)<4)=true:=Db h4;have d3:decide ((0:Int)<(n:Int))=true:=Db (by omega);have d4:decide (0<n)=true:=Db e7;have d5:decide (j<ks.length)=true:=Db L;have d6:decide (j<4)=true:=Db (by omega);have m0:IntKind.i64.wrap ((n:Int) - 1)=((n - 1:Nat):Int):=by rw [Du];omega
     have n1:(0:Int)<=(j:Int):=by omega
     have n2:(j:Int)<(ks.length:Int):=by omega
     have J:Hid ((ks.take (j+1)).map (zE (n - 1))=(ks.take j).map (zE (n - 1))++[zE (n - 1) ks[j]]):=by (show _=_);rw [Dg L,List.map_append];rfl
     have V:Hid (((ks.take j).map (zE (n - 1))).length=j):=by (show _=_);rw [DF,List.length_take];omega
     have f7:=zh (k4.out j L);have f5:Hid (ks[j].In):=k5.out _ (CZ L);obtain ⟨bk,offk,rfl,k0,k1,k2⟩:=kidsAt l0.out L;have q0:=za.rule (Q.out.cell k0);have q1:=za.rule (Q.out.cell k1);have q2:=za.rule (Q.out.cell k2);have c6:Hid (n - 1<N/\n - 1<=4):=⟨by omega,by omega⟩;obtain ⟨kd,j5⟩:=DX (ks[j]);rw [<-j5] at J f7 f5;obtain ⟨M,hM⟩:=DX (n - 1);rw [<-hM] at m0 J V c6 E⊢;obtain ⟨acc,f0⟩:=DX ((ks.take j).map (zE M));rw [<-f0] at J V E;clear j5 k0 k1 k2 hM f0 L e7 h4;go_upto_region 5 with fail;refine Dp (S:=(fun W=>za w1 W)) An (z.drew) fun zH=>?_;have D:za wq wq.drew:=(za.refl wq).drew;generalize wq.drew=wd at zH D⊢;refine zj 0 zH ?_;refine zj 2 zH ?_;simp only [zc,CV];refine zj 3 zH ?_;refine zj 4 zH ?_;simp only [zc,CV];refine zj 5 zH ?_;refine zj 6 zH ?_;simp only [zc,CV];refine zj 7 zH ?_;refine zj 8 zH ?_;simp only [zc,CV];refine rdA [1,9] ?_;refine Dy rfl (fun K d=>?_) ?_
     ·have cg1:wd.cell? ⟨gp,2,none⟩=some vk:=(o.out.ext (D)).cell (k:=2) rfl;go_simp;clear cg1;refine DY d (z.trans (D)) fun zH=>?_;clear d K;try simp only [zc,CV]
      refine Aa 9 fun K d=>?_;go_simp;go_at_call 11;refine (IH.out M _ _ kd wd c6.out.1 c6.out.2 (f7.out.ext (Q.out.trans (z.trans (D)))) f5.out).mono ?_;rintro e w2 ⟨v2,rfl,j0,g5⟩;obtain ⟨As2,cs2,Ak2,ck2,rfl,-⟩:=g5.form;have i1:Hid (za wq w2):=za.trans (D) j0
      have k7:Hid (zV w2 (fun b=>((ok b/\b<w.heap.size)\/w1.heap.size<=b)/\b≠gp/\vk.ownBlock≠some b) _ (zE M kd)):=g5.wk fun b hb d7=>by
       have h1:=I.out;have h2:=c0.out;have h3:=zb o.out;have h4:=Below.size (D);have h5:=Below.size z;have h6:vk.ownBlock=some b->w1.heap.size<=b/\b<wq.heap.size:=fun e=>World.ownsRow.lt E.out.own b e
       rcases hb with ⟨hb,O⟩ | hb
       ·exact ⟨.inl ⟨hb,O⟩,by omega,fun e=>by have:=h6 e;omega⟩
       ·exact ⟨.inr (by omega),by omega,fun e=>by have:=h6 e;omega⟩
      clear j0 g5;refine DY d (z.trans i1.out) fun zH=>?_;clear d K;try simp only [zc,CV]
      refine Aa 10 fun K d=>?_;go_simp;have e3:=ze.new w2 #[.int .i64 (zE M kd).task,.slice As2 (zE M kd).side.length cs2,.slice Ak2 (zE M kd).kids.length ck2] 27 (g:=w2.heap.size) rfl;have hA3:za w2 (w2.alloc (.cells #[.int .i64 (zE M kd).task,.slice As2 (zE M kd).side.length cs2,.slice Ak2 (zE M kd).kids.length ck2] 27)):=(za.refl w2).alloc _;generalize w2.alloc _=w3 at e3 hA3⊢;generalize w2.heap.size=g3 at e3⊢;have j9:=zh e3;have a3:Hid (za wq w3):=za.trans (i1.out) hA3;have k8:=zh (k7.out.ext hA3);clear e3 hA3;refine DY d (z.trans a3.out) fun zH=>?_;clear d K;try simp only [zc,CV]
      refine Aa 11 fun K d=>?_;have e2:Hid (BC w3 w1.heap.size (fun b=>ok b/\b<w.heap.size) gp vk acc cs):=E.out.same (fun b hb _=>Below.block (a3.out) b hb);refine zu (ok:=fun _=>True) (by rfl) w3 _ _ BQ (by rfl) w1.heap.size acc.length 1 cs _ vk _ (by rfl) (by rfl) e2.out.own (AH j9.out) (fun u hu=>by simp at hu;rcases hu with rfl | rfl | rfl <;> rfl) (by have h1:=Below.size z;have h2:=Below.size (a3.out);omega) (by have:=V.out;have:=G.out;unfold maxLen;omega) (by have:=V.out;have:=G.out;omega) ?_;intro v4 w4 h8 a2 j7;have i2:Hid (gp<w3.heap.size):=Dz (zb o.out) (Below.size (a3.out));have k6:=zh (e2.out.app k8.out i2.out h8 a2 j7);have e1:Hid (za w1 w4):=Below.grown (z.trans (a3.out)) a2 (Below.size (z.trans (a3.out))) (fun k hk=>(World.ownsRow.lt e2.out.own k hk).1);obtain ⟨A4,c4,e4,-,-⟩:=Ay.of_own h8;subst e4;have c7:Hid (ze w4 gp 27 #[.int .i64 t,.slice As S cs',vk]):=(a2.block gp i2.out (fun e=>e2.out.ne e.symm)).trans (o.out.ext (a3.out));clear h8 a2 j7;refine DY d (e1.out) fun zH=>?_;clear d K;try simp only [zc,CV]
      refine Aa 12 fun K d=>?_;go_simp;refine DY d (e1.out) fun zH=>?_;clear d K;try simp only [zc,CV]
      refine Aa 13 fun K d=>?_;have cg6:=c7.out.cell (k:=2) rfl;have fg6:=c7.out.frozen 2;go_simp;clear cg6 fg6;refine DY d (Below.setCell (e1.out) (p:=⟨gp,2,none⟩) I.out (.slice A4 (acc.length+1) c4)) fun zH=>?_;clear d K;try simp only [zc,CV]
      refine DB (by kernel_rfl) ?_ _;have a1:Hid (za w1 (w4.setCell ⟨gp,2,none⟩ (.slice A4 (acc.length+1) c4))):=Below.setCell (e1.out) (p:=⟨gp,2,none⟩) I.out (.slice A4 (acc.length+1) c4);have a0:Hid (ze (w4.setCell ⟨gp,2,none⟩ (.slice A4 (acc.length+1) c4)) gp 27 #[.int .i64 t,.slice As S cs',(.slice A4 (acc.length+1) c4)]):=c7.out.set (k:=2) (.slice A4 (acc.length+1) c4);have U:=zh (k6.out.same (W':=w4.setCell ⟨gp,2,none⟩ (.slice A4 (acc.length+1) c4)) (fun b _ hb=>hset b hb));generalize w4.setCell ⟨gp,2,none⟩ (.slice A4 (acc.length+1) c4)=wz at a1 a0 U⊢;go_wp2;go_roundw
      case rel=>exact ⟨j+1,_,_,by go_num,by omega,a1.out,a0.out,by (show BC _ _ _ _ _ _ _);rw [J.out];exact U.out⟩
      case measure=>simp [intOf];omega
     refine Dy rfl (fun K d=>?_) .nil;go_simp;go_at_call 11;refine (IH.out M _ _ kd wd c6.out.1 c6.out.2 (f7.out.ext (Q.out.trans (z.trans (D)))) f5.out).mono ?_;rintro e w7 ⟨v7,rfl,j1,g6⟩;obtain ⟨As7,cs7,Ak7,ck7,rfl,-⟩:=g6.form;have b9:Hid (za wq w7):=za.trans (D) j1
     have i6:Hid (zV w7 (fun b=>((ok b/\b<w.heap.size)\/w1.heap.size<=b)/\b≠gp/\vk.ownBlock≠some b) _ (zE M kd)):=g6.wk fun b hb d7=>by
      have h1:=I.out;have h2:=c0.out;have h3:=zb o.out;have h4:=Below.size (D);have h5:=Below.size z;have h6:vk.ownBlock=some b->w1.heap.size<=b/\b<wq.heap.size:=fun e=>World.ownsRow.lt E.out.own b e
      rcases hb with ⟨hb,O⟩ | hb
      ·exact ⟨.inl ⟨hb,O⟩,by omega,fun e=>by have:=h6 e;omega⟩
      ·exact ⟨.inr (by omega),by omega,fun e=>by have:=h6 e;omega⟩
     clear j1 g6;refine DY d (z.trans b9.out) fun zH=>?_;clear d K;try simp only [zc,CV]
     refine rdA [1,10] ?_;refine Dy rfl (fun K d=>?_) ?_
     ·have cg8:w7.cell? ⟨gp,2,none⟩=some vk:=(o.out.ext (b9.out)).cell (k:=2) rfl;go_simp;clear cg8;refine DY d (z.trans (b9.out)) fun zH=>?_;clear d K;try simp only [zc,CV]
      refine Aa 10 fun K d=>?_;go_simp;have e5:=ze.new w7 #[.int .i64 (zE M kd).task,.slice As7 (zE M kd).side.length cs7,.slice Ak7 (zE M kd).kids.length ck7] 27 (g:=w7.heap.size) rfl;have hA9:za w7 (w7.alloc (.cells #[.int .i64 (zE M kd).task,.slice As7 (zE M kd).side.length cs7,.slice Ak7 (zE M kd).kids.length ck7] 27)):=(za.refl w7).alloc _;generalize w7.alloc _=w9 at e5 hA9⊢;generalize w7.heap.size=g9 at e5⊢;have k3:=zh e5;have a4:Hid (za wq w9):=za.trans (b9.out) hA9;have k9:=zh (i6.out.ext hA9);clear e5 hA9;refine DY d (z.trans a4.out) fun zH=>?_;clear d K;try simp only [zc,CV]
      refine Aa 11 fun K d=>?_;have b0:Hid (BC w9 w1.heap.size (fun b=>ok b/\b<w.heap.size) gp vk acc cs):=E.out.same (fun b hb _=>Below.block (a4.out) b hb);refine zu (ok:=fun _=>True) (by rfl) w9 _ _ BQ (by rfl) w1.heap.size acc.length 1 cs _ vk _ (by rfl) (by rfl) b0.out.own (AH k3.out) (fun u hu=>by simp at hu;rcases hu with rfl | rfl | rfl <;> rfl) (by have h1:=Below.size z;have h2:=Below.size (a4.out);omega) (by have:=V.out;have:=G.out;unfold maxLen;omega) (by have:=V.out;have:=G.out;omega) ?_;intro v10 w10 d8 b5 f3;have e8:Hid (gp<w9.heap.size):=Dz (zb o.out) (Below.size (a4.out));have i3:=zh (b0.out.app k9.out e8.out d8 b5 f3);have a8:Hid (za w1 w10):=Below.grown (z.trans (a4.out)) b5 (Below.size (z.trans (a4.out))) (fun k hk=>(World.ownsRow.lt b0.out.own k hk).1);obtain ⟨A10,c10,e10,-,-⟩:=Ay.of_own d8;subst e10;have a5:Hid (ze w10 gp 27 #[.int .i64 t,.slice As S cs',vk]):=(b5.block gp e8.out (fun e=>b0.out.ne e.symm)).trans (o.out.ext (a4.out));clear d8 b5 f3;refine DY d (a8.out) fun zH=>?_;clear d K;try simp only [zc,CV]
      refine Aa 12 fun K d=>?_;go_simp;refine DY d (a8.out) fun zH=>?_;clear d K;try simp only [zc,CV]
      refine Aa 13 fun K d=>?_;have cg12:=a5.out.cell (k:=2) rfl;have fg12:=a5.out.frozen 2;go_simp;clear cg12 fg12;refine DY d (Below.setCell (a8.out) (p:=⟨gp,2,none⟩) I.out (.slice A10 (acc.length+1) c10)) fun zH=>?_;clear d K;try simp only [zc,CV]
      refine DB (by kernel_rfl) ?_ _;have a1:Hid (za w1 (w10.setCell ⟨gp,2,none⟩ (.slice A10 (acc.length+1) c10))):=Below.setCell (a8.out) (p:=⟨gp,2,none⟩) I.out (.slice A10 (acc.length+1) c10);have a0:Hid (ze (w10.setCell ⟨gp,2,none⟩ (.slice A10 (acc.length+1) c10)) gp 27 #[.int .i64 t,.slice As S cs',(.slice A10 (acc.length+1) c10)]):=a5.out.set (k:=2) (.slice A10 (acc.length+1) c10);have U:=zh (i3.out.same (W':=w10.setCell ⟨gp,2,none⟩ (.slice A10 (acc.length+1) c10)) (fun b _ hb=>hset b hb));generalize w10.setCell ⟨gp,2,none⟩ (.slice A10 (acc.length+1) c10)=wz at a1 a0 U⊢;go_wp2;go_roundw
      case rel=>exact ⟨j+1,_,_,by go_num,by omega,a1.out,a0.out,by (show BC _ _ _ _ _ _ _);rw [J.out];exact U.out⟩
      case measure=>simp [intOf];omega
     refine Dy rfl (fun K d=>?_) .nil;go_simp;have b3:=ze.new w7 #[.int .i64 (zE M kd).task,.slice As7 (zE M kd).side.length cs7,.slice Ak7 (zE M kd).kids.length ck7] 27 (g:=w7.heap.size) rfl;have hA13:za w7 (w7.alloc (.cells #[.int .i64 (zE M kd).task,.slice As7 (zE M kd).side.length cs7,.slice Ak7 (zE M kd).kids.length ck7] 27)):=(za.refl w7).alloc _;generalize w7.alloc _=w13 at b3 hA13⊢;generalize w7.heap.size=g13 at b3⊢;have i0:=zh b3;have r:Hid (za wq w13):=za.trans (b9.out) hA13;have i5:=zh (i6.out.ext hA13);clear b3 hA13;refine DY d (z.trans r.out) fun zH=>?_;clear d K;try simp only [zc,CV]
     refine Aa 1 fun K d=>?_;have cg14:w13.cell? ⟨gp,2,none⟩=some vk:=(o.out.ext (r.out)).cell (k:=2) rfl;go_simp;clear cg14;refine DY d (z.trans (r.out)) fun zH=>?_;clear d K;try simp only [zc,CV]
     refine Aa 11 fun K d=>?_;have b1:Hid (BC w13 w1.heap.size (fun b=>ok b/\b<w.heap.size) gp vk acc cs):=E.out.same (fun b hb _=>Below.block (r.out) b hb);refine zu (ok:=fun _=>True) (by rfl) w13 _ _ BQ (by rfl) w1.heap.size acc.length 1 cs _ vk _ (by rfl) (by rfl) b1.out.own (AH i0.out) (fun u hu=>by simp at hu;rcases hu with rfl | rfl | rfl <;> rfl) (by have h1:=Below.size z;have h2:=Below.size (r.out);omega) (by have:=V.out;have:=G.out;unfold maxLen;omega) (by have:=V.out;have:=G.out;omega) ?_;intro v15 w15 d9 b6 f4;have e9:Hid (gp<w13.heap.size):=Dz (zb o.out) (Below.size (r.out));have i4:=zh (b1.out.app i5.out e9.out d9 b6 f4);have a9:Hid (za w1 w15):=Below.grown (z.trans (r.out)) b6 (Below.size (z.trans (r.out))) (fun k hk=>(World.ownsRow.lt b1.out.own k hk).1);obtain ⟨A15,c15,e15,-,-⟩:=Ay.of_own d9;subst e15;have a6:Hid (ze w15 gp 27 #[.int .i64 t,.slice As S cs',vk]):=(b6.block gp e9.out (fun e=>b1.out.ne e.symm)).trans (o.out.ext (r.out));clear d9 b6 f4;refine DY d (a9.out) fun zH=>?_;clear d K;try simp only [zc,CV]
     refine Aa 12 fun K d=>?_;go_simp;refine DY d (a9.out) fun zH=>?_;clear d K;try simp only [zc,CV]
     refine Aa 13 fun K d=>?_;have cg17:=a6.out.cell (k:=2) rfl;have fg17:=a6.out.frozen 2;go_simp;clear cg17 fg17;refine DY d (Below.setCell (a9.out) (p:=⟨gp,2,none⟩) I.out (.slice A15 (acc.length+1) c15)) fun zH=>?_;clear d K;try simp only [zc,CV]
     refine DB (by kernel_rfl) ?_ _;have a1:Hid (za w1 (w15.setCell ⟨gp,2,none⟩ (.slice A15 (acc.length+1) c15))):=Below.setCell (a9.out) (p:=⟨gp,2,none⟩) I.out (.slice A15 (acc.length+1) c15);have a0:Hid (ze (w15.setCell ⟨gp,2,none⟩ (.slice A15 (acc.length+1) c15)) gp 27 #[.int .i64 t,.slice As S cs',(.slice A15 (acc.length+1) c15)]):=a6.out.set (k:=2) (.slice A15 (acc.length+1) c15);have U:=zh (i4.out.same (W':=w15.setCell ⟨gp,2,none⟩ (.slice A15 (acc.length+1) c15)) (fun b _ hb=>hset b hb));generalize w15.setCell ⟨gp,2,none⟩ (.slice A15 (acc.length+1) c15)=wz at a1 a0 U⊢;go_wp2;go_roundw
     case rel=>exact ⟨j+1,_,_,by go_num,by omega,a1.out,a0.out,by (show BC _ _ _ _ _ _ _);rw [J.out];exact U.out⟩
     case measure=>simp [intOf];omega
    ·have j4:j=K:=by omega
     have a7:¬ (j<ks.length)\/¬ (j<4)\/¬ (0<n):=by
      by_cases h1:j<ks.length
      ·by_cases h2:j<4
       ·exact .inr (.inr fun h3=>d7 (G.out.2.2.2 h3 j h1 h2))
       ·exact .inr (.inl h2)
      ·exact .inl h1
     rw [j4] at E
     have f8:Hid (zV wq (fun b=>(ok b/\b<w.heap.size)\/w1.heap.size<=b) (.agg #[.int .i64 t,.slice As S cs',vk]) (.node t (s.take 20) ((ks.take K).map (zE (n - 1))))):=by
      (show zV _ _ _ _)
      rw [l2.out];refine .mk (cs:=cs) ?_ ((Ay.of_own E.out.own).weaken fun b hb=>.inr hb) (fun i hi=>(E.out.each i hi).wk fun b hb _=>hb.1);have h:=(l1.out.below z).weaken (ok':=fun b=>(ok b/\b<w.heap.size)\/w1.heap.size<=b) fun b hb=>.inl hb
      have e:(s.take S).length=S:=i8.out;exact h
     have g0:=zh z;obtain ⟨Ak,ck',evk,-,-⟩:=Ay.of_own E.out.own;obtain ⟨NK,j2⟩:∃N,N=((ks.take K).map (zE (n - 1))).length:=⟨_,rfl⟩;rw [<-j2] at evk;clear j2;subst evk;have y0:=o.out.cell (k:=0) rfl;have y1:=o.out.cell (k:=1) rfl;have y2:=o.out.cell (k:=2) rfl;have hZ:=HZ.out.ext z;have z0:=hZ.cell (k:=0) rfl;have z1:=hZ.cell (k:=1) rfl;have z2:=hZ.cell (k:=2) rfl;have zf:∀j,wq.frozen? ⟨b4,j,none⟩=false:=fun j=>hZ.frozen j
     have g1:=zh hZ;clear hZ E o j4 d7;by_cases h1:j<ks.length
     ·have d1:decide ((j:Int)<(ks.length:Int))=true:=Db (by omega);have d5:decide (j<ks.length)=true:=Db h1;by_cases h2:j<4
      ·have d2:decide ((j:Int)<4)=true:=Db (by omega);have d6:decide (j<4)=true:=Db h2;have e7:n=0:=by omega
       have d3:decide ((0:Int)<(n:Int))=false:=Dc (by omega);have d4:decide (0<n)=false:=Dc (by omega);clear e7 a7
       go_wp2_with fail
       refine case_fin29 (P:=fun W=>bodyPost Tryz.prog Tryz.f11 _ Exit.ret _ W) (g2:=b4) ?_ g1.out;intro WZ c9 c8 hk;exact few_end rfl rfl c9 (few_fin Q.out c0.out g0.out f8.out c8 hk)
      ·have d2:decide ((j:Int)<4)=false:=Dc (by omega);have d6:decide (j<4)=false:=Dc h2;clear a7
       go_wp2_with fail
       refine case_fin29 (P:=fun W=>bodyPost Tryz.prog Tryz.f11 _ Exit.ret _ W) (g2:=b4) ?_ g1.out;intro WZ c9 c8 hk;exact few_end rfl rfl c9 (few_fin Q.out c0.out g0.out f8.out c8 hk)
     ·have d1:decide ((j:Int)<(ks.length:Int))=false:=Dc (by omega);have d5:decide (j<ks.length)=false:=Dc h1;clear a7
      go_wp2_with fail
      refine case_fin29 (P:=fun W=>bodyPost Tryz.prog Tryz.f11 _ Exit.ret _ W) (g2:=b4) ?_ g1.out;intro WZ c9 c8 hk;exact few_end rfl rfl c9 (few_fin Q.out c0.out g0.out f8.out c8 hk)
end
section
open Go.RowKit
def pbP:Value->Option Nat
 | .pointer (some a)=>some a.block
 | _=>none
def BN (P:World->(Nat->Prop)->Value->Prop):Prop:=∀(W W':World) (ok ok':Nat->Prop) (x:Value),P W ok x->(∀b,ok b->b<W.heap.size->W'.heap[b]?=W.heap[b]?)->(∀b,ok b->b<W.heap.size->ok' b)->P W' ok' x
def offB2 (e:Nat->Bool) (v:Nat->Value) (b:Nat):Prop:=(e 4=true->pbP (v 4)≠some b)/\(e 5=true->pbP (v 5)≠some b)
structure J2 (P1 P2:World->(Nat->Prop)->Value->Prop) (ty:TypeId) (zs:Array Value) (w0:World) (e:Nat->Bool) (v:Nat->Value) (W:World):Prop where
 ext:za w0 W
 p1:e 1=true->P1 W (offB2 e v) (v 1)
 p2:e 3=true->P2 W (offB2 e v) (v 3)
 b1:e 4=true->∃g,v 4=.pointer (some ⟨g,0,none⟩)/\w0.heap.size<=g/\g<W.heap.size/\(e 6=false->ze W g ty zs)/\(e 6=true->∃cs,v 1=.agg cs/\ze W g ty cs)
 b2:e 5=true->∃g,v 5=.pointer (some ⟨g,0,none⟩)/\w0.heap.size<=g/\g<W.heap.size/\(e 7=false->ze W g ty zs)/\(e 7=true->∃cs,v 3=.agg cs/\ze W g ty cs)
 ne:e 4=true->e 5=true->pbP (v 4)≠pbP (v 5)
 d1:e 6=true->e 1=true/\e 3=true/\e 4=true/\e 5=true
 d2:e 7=true->e 6=true
section
variable {P1 P2:World->(Nat->Prop)->Value->Prop} {ty:TypeId} {zs:Array Value} {w0 W W':World} {e:Nat->Bool} {v:Nat->Value} {x:Value}
theorem J2.init (d:za w0 W) (he:∀j∈[1,3,4,5,6,7],e j=false):J2 P1 P2 ty zs w0 e v W:=by
 have n:∀j∈[1,3,4,5,6,7],e j=true->False:=fun j o h=>by rw [he j o] at h;cases h
 exact ⟨d,fun h=>(n 1 (by simp) h).elim,fun h=>(n 3 (by simp) h).elim,fun h=>(n 4 (by simp) h).elim,fun h=>(n 5 (by simp) h).elim,fun h=>(n 4 (by simp) h).elim,fun h=>(n 6 (by simp) h).elim,fun h=>(n 7 (by simp) h).elim⟩
theorem J2.no (h:J2 P1 P2 ty zs w0 e v W) {j:Nat} (r:j=1\/j=3\/j=4\/j=5) (he:e j=false):e 6=false/\e 7=false:=by
 have o:e 6=false:=by
  cases q:e 6 with
  | false=>rfl
  | true=>
   obtain ⟨a,b,c,d⟩:=h.d1 q;rcases r with rfl | rfl | rfl | rfl
   ·rw [he] at a;cases a
   ·rw [he] at b;cases b
   ·rw [he] at c;cases c
   ·rw [he] at d;cases d
 refine ⟨o,?_⟩
 cases q:e 7 with
 | false=>rfl
 | true=>have:=h.d2 q;rw [o] at this;cases this
theorem J2.call1 (h:J2 P1 P2 ty zs w0 e v W) (k1:BN P1) (k2:BN P2) (he:e 1=false) (d:za W W') (E:P1 W' (fun b=>b<w0.heap.size\/W.heap.size<=b) x):J2 P1 P2 ty zs w0 (Ba e 1 true) (Ba v 1 x) W':=by
 obtain ⟨o,r⟩:=h.no (.inl rfl) he;have G:=d.size;refine ⟨h.ext.trans d,fun _=>k1 _ _ _ _ _ E (fun _ _ _=>rfl) fun b z _=>⟨fun a q=>?_,fun a q=>?_⟩,fun a=>k2 _ _ _ _ _ (h.p2 a) (fun b _ D=>d.block b D) (fun b z _=>z),fun a=>?_,fun a=>?_,h.ne,fun a=>?_,h.d2⟩
 ·obtain ⟨g,e1,l,u,-⟩:=h.b1 a;have q:pbP (v 4)=some b:=q;rw [e1] at q;injection q with q;have q:g=b:=q;omega
 ·obtain ⟨g,e1,l,u,-⟩:=h.b2 a;have q:pbP (v 5)=some b:=q;rw [e1] at q;injection q with q;have q:g=b:=q;omega
 ·obtain ⟨g,e1,l,u,m,-⟩:=h.b1 a;exact ⟨g,e1,l,by omega,fun _=>(m o).ext d,fun q=>by have q:e 6=true:=q;rw [o] at q;cases q⟩
 ·obtain ⟨g,e1,l,u,m,-⟩:=h.b2 a;exact ⟨g,e1,l,by omega,fun _=>(m r).ext d,fun q=>by have q:e 7=true:=q;rw [r] at q;cases q⟩
 ·have a:e 6=true:=a;rw [o] at a;cases a
theorem J2.call2 (h:J2 P1 P2 ty zs w0 e v W) (k1:BN P1) (k2:BN P2) (he:e 3=false) (d:za W W') (E:P2 W' (fun b=>b<w0.heap.size\/W.heap.size<=b) x):J2 P1 P2 ty zs w0 (Ba e 3 true) (Ba v 3 x) W':=by
 obtain ⟨o,r⟩:=h.no (.inr (.inl rfl)) he;have G:=d.size;refine ⟨h.ext.trans d,fun a=>k1 _ _ _ _ _ (h.p1 a) (fun b _ D=>d.block b D) (fun b z _=>z),fun _=>k2 _ _ _ _ _ E (fun _ _ _=>rfl) fun b z _=>⟨fun a q=>?_,fun a q=>?_⟩,fun a=>?_,fun a=>?_,h.ne,fun a=>?_,h.d2⟩
 ·obtain ⟨g,e1,l,u,-⟩:=h.b1 a;have q:pbP (v 4)=some b:=q;rw [e1] at q;injection q with q;have q:g=b:=q;omega
 ·obtain ⟨g,e1,l,u,-⟩:=h.b2 a;have q:pbP (v 5)=some b:=q;rw [e1] at q;injection q with q;have q:g=b:=q;omega
 ·obtain ⟨g,e1,l,u,m,-⟩:=h.b1 a;exact ⟨g,e1,l,by omega,fun _=>(m o).ext d,fun q=>by have q:e 6=true:=q;rw [o] at q;cases q⟩
 ·obtain ⟨g,e1,l,u,m,-⟩:=h.b2 a;exact ⟨g,e1,l,by omega,fun _=>(m r).ext d,fun q=>by have q:e 7=true:=q;rw [r] at q;cases q⟩
 ·have a:e 6=true:=a;rw [o] at a;cases a
theorem J2.box1 (h:J2 P1 P2 ty zs w0 e v W) (k1:BN P1) (k2:BN P2) (he:e 4=false):J2 P1 P2 ty zs w0 (Ba e 4 true) (Ba v 4 (.pointer (some ⟨W.heap.size,0,none⟩))) (W.alloc (.cells zs ty)):=by
 obtain ⟨z,D⟩:=h.no (.inr (.inr (.inl rfl))) he;have o:za W (W.alloc (.cells zs ty)):=(za.refl W).alloc _;have E:(W.alloc (.cells zs ty)).heap.size=W.heap.size+1:=by simp
 have hf:∀b,b<W.heap.size->some W.heap.size≠some b:=fun b r q=>by injection q with q;omega
 refine ⟨h.ext.trans o,fun a=>k1 _ _ _ _ _ (h.p1 a) (fun b _ d=>o.block b d) (fun b r d=>⟨fun _=>hf b d,r.2⟩),fun a=>k2 _ _ _ _ _ (h.p2 a) (fun b _ d=>o.block b d) (fun b r d=>⟨fun _=>hf b d,r.2⟩),fun _=>?_,fun a=>?_,fun _ a q=>?_,fun a=>?_,h.d2⟩
 ·exact ⟨_,rfl,h.ext.size,by omega,fun _=>ze.new _ _ _ rfl,fun q=>by have q:e 6=true:=q;rw [z] at q;cases q⟩
 ·obtain ⟨g,e1,l,u,m,-⟩:=h.b2 a;exact ⟨g,e1,l,by omega,fun _=>(m D).ext o,fun q=>by have q:e 7=true:=q;rw [D] at q;cases q⟩
 ·obtain ⟨g,e1,l,u,-⟩:=h.b2 a;have q:some W.heap.size=pbP (v 5):=q;rw [e1] at q;exact hf g u q
 ·have a:e 6=true:=a;rw [z] at a;cases a
theorem J2.box2 (h:J2 P1 P2 ty zs w0 e v W) (k1:BN P1) (k2:BN P2) (he:e 5=false):J2 P1 P2 ty zs w0 (Ba e 5 true) (Ba v 5 (.pointer (some ⟨W.heap.size,0,none⟩))) (W.alloc (.cells zs ty)):=by
 obtain ⟨z,D⟩:=h.no (.inr (.inr (.inr rfl))) he;have o:za W (W.alloc (.cells zs ty)):=(za.refl W).alloc _;have E:(W.alloc (.cells zs ty)).heap.size=W.heap.size+1:=by simp
 have hf:∀b,b<W.heap.size->some W.heap.size≠some b:=fun b r q=>by injection q with q;omega
 refine ⟨h.ext.trans o,fun a=>k1 _ _ _ _ _ (h.p1 a) (fun b _ d=>o.block b d) (fun b r d=>⟨r.1,fun _=>hf b d⟩),fun a=>k2 _ _ _ _ _ (h.p2 a) (fun b _ d=>o.block b d) (fun b r d=>⟨r.1,fun _=>hf b d⟩),fun a=>?_,fun _=>?_,fun a _ q=>?_,fun a=>?_,h.d2⟩
 ·obtain ⟨g,e1,l,u,m,-⟩:=h.b1 a;exact ⟨g,e1,l,by omega,fun _=>(m z).ext o,fun q=>by have q:e 6=true:=q;rw [z] at q;cases q⟩
 ·exact ⟨_,rfl,h.ext.size,by omega,fun _=>ze.new _ _ _ rfl,fun q=>by have q:e 7=true:=q;rw [D] at q;cases q⟩
 ·obtain ⟨g,e1,l,u,-⟩:=h.b1 a;have q:pbP (v 4)=some W.heap.size:=q;rw [e1] at q;exact hf g u q.symm
 ·have a:e 6=true:=a;rw [z] at a;cases a
theorem J2.store1 {g:Nat} {cs:Array Value} (h:J2 P1 P2 ty zs w0 e v W) (k1:BN P1) (k2:BN P2) (he:e 6=false) (z:e 1=true/\e 3=true/\e 4=true/\e 5=true) (r:v 4=.pointer (some ⟨g,0,none⟩)) (h1:v 1=.agg cs) (G:za w0 W') (I:W.heap.size<=W'.heap.size)
  (D:∀b,b≠g->W'.heap[b]?=W.heap[b]?) (d:ze W' g ty cs):J2 P1 P2 ty zs w0 (Ba e 6 true) (Ba v 6 x) W':=by
 have E:e 7=false:=by
  cases q:e 7 with
  | false=>rfl
  | true=>have:=h.d2 q;rw [he] at this;cases this
 have o:∀b,offB2 e v b->b≠g:=fun b d q=>d.1 z.2.2.1 (by rw [r,q];rfl)
 refine ⟨G,fun a=>k1 _ _ _ _ _ (h.p1 a) (fun b d _=>D b (o b d)) (fun b d _=>d),fun a=>k2 _ _ _ _ _ (h.p2 a) (fun b d _=>D b (o b d)) (fun b d _=>d),fun a=>?_,fun a=>?_,h.ne,fun _=>z,fun _=>rfl⟩
 ·obtain ⟨g',e1,l,u,-⟩:=h.b1 a;have e2:=e1;rw [r] at e2;injection e2 with e2;injection e2 with e2;injection e2 with e2;subst e2;exact ⟨g,r,l,by omega,(fun q=>by cases q),fun _=>⟨cs,h1,d⟩⟩
 ·obtain ⟨g',e1,l,u,m,-⟩:=h.b2 a;exact ⟨g',e1,l,by omega,fun _=>(D g' (fun q=>h.ne z.2.2.1 z.2.2.2 (by rw [r,e1,q]))).trans (m E),fun q=>by have q:e 7=true:=q;rw [E] at q;cases q⟩
theorem J2.store2 {g:Nat} {cs:Array Value} (h:J2 P1 P2 ty zs w0 e v W) (k1:BN P1) (k2:BN P2) (he:e 7=false) (z:e 6=true) (r:v 5=.pointer (some ⟨g,0,none⟩)) (G:v 3=.agg cs) (J:za w0 W') (K:W.heap.size<=W'.heap.size)
  (E:∀b,b≠g->W'.heap[b]?=W.heap[b]?) (d:ze W' g ty cs):J2 P1 P2 ty zs w0 (Ba e 7 true) (Ba v 7 x) W':=by
 have D:=h.d1 z;have o:∀b,offB2 e v b->b≠g:=fun b d q=>d.2 D.2.2.2 (by rw [r,q];rfl)
 refine ⟨J,fun a=>k1 _ _ _ _ _ (h.p1 a) (fun b d _=>E b (o b d)) (fun b d _=>d),fun a=>k2 _ _ _ _ _ (h.p2 a) (fun b d _=>E b (o b d)) (fun b d _=>d),fun a=>?_,fun a=>?_,h.ne,fun _=>D,fun _=>z⟩
 ·obtain ⟨g',e1,l,u,m,n⟩:=h.b1 a;obtain ⟨cs',e2,I⟩:=n z;exact ⟨g',e1,l,by omega,(fun q=>by have q:e 6=false:=q;rw [z] at q;cases q),fun _=>⟨cs',e2,(E g' (fun q=>h.ne D.2.2.1 D.2.2.2 (by rw [e1,r,q]))).trans I⟩⟩
 ·obtain ⟨g',e1,l,u,-⟩:=h.b2 a;have e2:=e1;rw [r] at e2;injection e2 with e2;injection e2 with e2;injection e2 with e2;subst e2;exact ⟨g,r,l,by omega,(fun q=>by cases q),fun _=>⟨cs,G,d⟩⟩
theorem J2.fin {v:Nat->Value} (h:J2 P1 P2 ty zs w0 (fun _=>true) v W) (k1:BN P1) (k2:BN P2):∃g1 g2 a1 a2,v 4=.pointer (some ⟨g1,0,none⟩)/\v 5=.pointer (some ⟨g2,0,none⟩)/\v 1=.agg a1/\v 3=.agg a2/\za w0 W/\w0.heap.size<=g1/\w0.heap.size<=g2/\ze W g1 ty a1/\ze W g2 ty a2/\P1 W (fun b=>b≠g1/\b≠g2) (.agg a1)/\P2 W (fun b=>b≠g1/\b≠g2) (.agg a2):=by
 obtain ⟨g1,e4,l1,-,-,n1⟩:=h.b1 rfl;obtain ⟨g2,e5,l2,-,-,n2⟩:=h.b2 rfl;obtain ⟨a1,f1,B1⟩:=n1 rfl;obtain ⟨a2,f2,B2⟩:=n2 rfl;have o:∀b,offB2 (fun _=>true) v b->b≠g1/\b≠g2:=fun b d=>⟨fun q=>d.1 rfl (by rw [e4,q];rfl),fun q=>d.2 rfl (by rw [e5,q];rfl)⟩
 refine ⟨g1,g2,a1,a2,e4,e5,f1,f2,h.ext,l1,l2,B1,B2,?_,?_⟩
 ·rw [<-f1];exact k1 _ _ _ _ _ (h.p1 rfl) (fun _ _ _=>rfl) (fun b d _=>o b d)
 ·rw [<-f2];exact k2 _ _ _ _ _ (h.p2 rfl) (fun _ _ _=>rfl) (fun b d _=>o b d)
end
end
end Go.Proofs.YtcnaogdgjkpkmaaGreatDoor
