import Derived.Test.YtfjjdmpndmbfoaaGreatDoorWJm
import Derived.ProofKit
import Derived.OpenShut
import Derived.Lib.Strings
import Derived.Lib.Walk
import Derived.Lib.BufferWrite
import Derived.Lib.UnsafeStr
import Derived.Lib.Hide
import Derived.Laws.MakeOwn
import Derived.Laws.IdiomStrings
import Derived.WalkKit
import Derived.ShutString
import Derived.WalkLawsBesides
import Derived.WalkSpells
set_option linter.unusedVariables false
set_option linter.unusedSimpArgs false
set_option maxRecDepth 100000
set_option maxHeartbeats 16000000
namespace Go.Proofs.YtfjjdmpndmbfoaaGreatDoor
variable {a:Addr} {steps:Int} {ch l:List Int} {s t:List UInt8} {m:MZ} {B k n:Nat} {ok:Nat->Prop} {v:Value} {W:World}
section
open Go.RowKit
def GivesZ {α:Type} (n:Nat) (P:Program) (g:Nat) (lb:Array Value) (encs:α->Array Value) (G:Nat->α->World->Prop) (N:Nat) (Z:Nat->Prop) (w:World):Prop:=
 ∀(l:Nat) (J:Nat->World->Prop) (Jx:World->Prop) (W:World),zc w W->w.heap.size<=l->l<W.heap.size->(∀k A B,J k A->Below W.heap.size A B->J k B)->(∀A B,Jx A->Below W.heap.size A B->Jx B)->
  (∀k x W1,k<N->J k W1->G k x W1->YieldAt Fence.wide (n - 1) P l (encs x) W1 fun e W'=>(e=.returned (.bool true)/\J (k+1) W'/\zG (fun b=>b=l\/Z b) W1 W')\/(e=.returned (.bool false)/\Jx W'/\∀b,W.heap.size<=b->b<W1.heap.size->W'.heap[b]?=W1.heap[b]?))->
  J 0 W->
  CallsIn Fence.wide n P g (#[.func (.yield l) #[] #[]]++lb) W fun e W'=>(∃v,e=.returned v)/\(J N W'\/Jx W')
end
section
open Go.RowKit
attribute [local go_sem ↓] Go.wp_at_zero Go.wp_at_succ
attribute [local go_sem] Oper.semAt_some
theorem yield_any {m:Nat} {P:Program} {l:Nat} {args:Array Value} {R:Ending->World->Prop} (h:YieldAt Fence.wide m P l args W R):
  ∃fn tmps assign body,(Instr.yield l args).run P W=.ok (.round l fn tmps assign body) W/\∀m',RoundIn Fence.wide m' P l fn tmps assign body W R:=by
 obtain ⟨fn,tmps,assign,body,o,d⟩:=h;exact ⟨fn,tmps,assign,body,o,fun m'=>⟨d.1,fun c cs _=>d.2 c cs (room_wide _)⟩⟩
theorem fold_one (p:Tmp) (v:Value) (T:Array Value):(#[p].zip #[v]).foldl (fun t (p,v)=>t.setIfInBounds p v) T=T.setIfInBounds p v:=by
 simp
theorem Cx.inv {w:World} {t:Int} {vs vk:Value} {p:PT} (h:Cx w ok (.agg #[.int .i64 t,vs,vk]) p):∃side kids cs,p=.node t side kids/\zk w ok vs side/\Bd w ok 3 vk kids.length cs/\
  ∀(i:Nat) (D:i<kids.length),Cx w ok (.agg #[cs.getD (i*3) undef,cs.getD (i*3+1) undef,cs.getD (i*3+2) undef]) kids[i]:=by
 cases h with
 | mk h1 d o=>exact ⟨_,_,_,rfl,h1,d,o⟩
end
section
open Go.ChangeShapes Go.WideShapes Go.ChangeAt Go.RowKit
def U8s (w:World) (ok:Nat->Prop) (v:Value) (l:List Int):Prop:=Bd w ok 1 v l.length (l.map (Value.int .u8))/\∀x∈l,0<=x/\x<=255
theorem U8s.below {w w':World} {ok:Nat->Prop} {v:Value} {l:List Int} (h:U8s w ok v l) (d:Below w.heap.size w w'):U8s w' ok v l:=⟨Bd.below h.1 d,h.2⟩
theorem u8At {w:World} {c:Nat} {A:Option Addr} (h:U8s w ok (.slice A n c) l) (d:k<l.length):
  ∃b off,A=some ⟨b,off,none⟩/\w.cell? ⟨b,off+k,none⟩=some (.int .u8 (l[k]))/\0<=l[k]/\l[k]<=255:=by
 obtain ⟨⟨A',c',e,J,G⟩,D⟩:=h;injection e with e1 e2 e3;subst e1;obtain ⟨b,off,u,e,I,E,o⟩:=G.at_ d;rw [Dz,CQ d] at E;exact ⟨b,off,e,by rw [o,<-E];rfl,(D _ (CT d)).1,(D _ (CT d)).2⟩
theorem spot_none {w:World} (h:w.cell? a=some v):a.spot=none:=by
 unfold World.cell? at h
 split at h
 ·split at h
  ·cases h
  ·rename_i h1
   cases d:a.spot
   ·rfl
   ·rw [d] at h1;simp at h1
 ·cases h
theorem addr_at (h:a.spot=none) (n:Nat):a.add n=⟨a.block,a.off+n,none⟩:=by
 obtain ⟨b,o,s⟩:=a;simp only at h;subst h;unfold Addr.add
 split
 ·rename_i h0;subst h0;rfl
 ·rfl
theorem chooseList {β:Type} {p:Nat->β->Prop}:∀(n:Nat),(∀i,i<n->∃b,p i b)->∃l:List β,l.length=n/\∀i b,l[i]?=some b->p i b
 | 0,_=>⟨[],rfl,fun i b h=>by simp at h⟩
 | n+1,h=>by
  obtain ⟨l,D,h1⟩:=chooseList n (fun i hi=>h i (by omega));obtain ⟨b,E⟩:=h n (by omega);refine ⟨l++[b],by simp [D],fun i x d=>?_⟩;rcases Do i l.length with hi | hi
  ·rw [CX hi] at d;exact h1 i x d
  ·have o:i=l.length:=by
    rcases Do i (l++[b]).length with h2 | h2
    ·simp at h2;omega
    ·rw [Dl h2] at d;cases d
   subst o;rw [CY (CS _),Nat.sub_self] at d;have:b=x:=by simpa using d
   subst this;rw [D];exact E
section
variable {H:Type} {enc:TypeId×Value->H} {w:World} {base:Nat} {held:Bool} {fuel:Nat} {cs:List Value} {x:DataW H×List MemPlace}
theorem sliceOpen {t e:TypeId} {sz:Nat} (ht:Tryz.prog.underlying t=some (.slice e)) (Q:Tryz.prog.cellsOf e=sz) (h0:0<sz) (h:DataW.trod enc Tryz.prog w base (fun _=>true) held fuel t cs=some x):
  ∃A len c,cs=[.slice A len c]/\len<=c/\len<=9223372036854775807/\(0<len->∃b off,A=some ⟨b,off,none⟩/\∀i,i<len->∃(cl:List Value) (n:Nat) (y:DataW H×List MemPlace),cl.length=sz/\(∀j,j<sz->w.cell? ⟨b,off+(i*sz+j),none⟩=cl[j]?)/\DataW.trod enc Tryz.prog w base (fun _=>true) held n e cl=some y):=by
 rcases DataW.trod_slice ht h with ⟨rfl,_⟩ | ⟨a,len,cap,elems,rest,n,_,rfl,_,hb,hl,hm,V,K,_,_⟩
 ·exact ⟨none,0,0,rfl,CS _,by decide,fun h=>by omega⟩
 ·refine ⟨some a,len,cap,rfl,hl,by unfold maxLen at hm;omega,fun E=>?_⟩
  have each:∀i,i<len->∃(cl:List Value) (y:DataW H×List MemPlace),w.cells? base (a.add (i*sz)) sz=some cl/\DataW.trod enc Tryz.prog w base (fun _=>true) held n e cl=some y:=fun i M=>by
   have h1:=K i M;rw [Q,CQ (by omega)] at h1;obtain ⟨cl,d,G⟩:=Option.bind_eq_some_iff.1 h1;exact ⟨cl,_,d,G⟩
  have O:a.spot=none:=by
   obtain ⟨cl,y,d,_⟩:=each 0 E;obtain ⟨_,U,I⟩:=World.cells?_some d;have D:=I 0 h0;rw [CQ (by omega)] at D;have J:=spot_none D;rw [Nat.zero_mul] at J;unfold Addr.add at J
   rwa [if_pos rfl,if_pos rfl] at J
  refine ⟨a.block,a.off,?_,fun i M=>?_⟩
  ·obtain ⟨b,o,s⟩:=a;simp only at O;subst O;rfl
  ·obtain ⟨cl,y,d,G⟩:=each i M;obtain ⟨_,U,I⟩:=World.cells?_some d;refine ⟨cl,n,y,U,fun j hj=>?_,G⟩;have D:=I j hj;rw [addr_at O,addr_at rfl] at D;rw [<-Nat.add_assoc];exact D
theorem eachOpen {α:Type} {R:Value->α->Prop} {t e:TypeId} (ht:Tryz.prog.underlying t=some (.slice e)) (M:Tryz.prog.cellsOf e=1)
  (V:∀n cl y,DataW.trod enc Tryz.prog w base (fun _=>true) held n e cl=some y->∃v a,cl=[v]/\R v a) (h:DataW.trod enc Tryz.prog w base (fun _=>true) held fuel t cs=some x):
  ∃v l,cs=[v]/\Each R w (fun _=>True) v l/\l.length<=9223372036854775807/\∀a∈l,∃u,R u a:=by
 obtain ⟨A,len,c,rfl,o,K,d⟩:=sliceOpen ht M (by omega) h;rcases DB len with rfl | hpos
 ·exact ⟨_,[],rfl,⟨[],⟨A,c,rfl,o,Ag.nil _ _ _ _⟩,fun i y D=>by simp at D⟩,by simp,fun a E=>by cases E⟩
 ·obtain ⟨b,off,rfl,G⟩:=d hpos;clear d
  obtain ⟨l,J,hp⟩:=chooseList (β:=Value×α) (p:=fun i va=>w.cell? ⟨b,off+i,none⟩=some va.1/\R va.1 va.2) len (fun i I=>by
   obtain ⟨cl,n,y,h1,Q,U⟩:=G i I;obtain ⟨v,a,rfl,hr⟩:=V n cl y U;have:=Q 0 (by omega);rw [Nat.mul_one,Nat.add_zero] at this;exact ⟨(v,a),this,hr⟩)
  refine ⟨_,l.map (·.2),rfl,⟨l.map (·.1),⟨_,c,by rw [DA,J],by rw [DA,J];exact o,by simp,fun _=>⟨b,off,rfl,trivial,fun j u O=>?_⟩⟩,fun i y D=>?_⟩,by rw [DA,J];exact K,fun a E=>?_⟩
  ·rw [Dz] at O;obtain ⟨va,h1,rfl⟩:=Option.map_eq_some_iff.1 O;exact (hp j va h1).1
  ·rw [Dz] at D;obtain ⟨va,h1,rfl⟩:=Option.map_eq_some_iff.1 D;exact ⟨va.1,by rw [Dz,h1];rfl,(hp i va h1).2⟩
  ·obtain ⟨va,h1,rfl⟩:=List.mem_map.1 E;obtain ⟨i,I,rfl⟩:=Dx h1;exact ⟨_,(hp i _ (CQ I)).2⟩
theorem row_of_each {α:Type} {f:α->Value} {l:List α} (h:Each (fun u a=>u=f a) w (fun _=>True) v l):Bd w (fun _=>True) 1 v l.length (l.map f):=by
 obtain ⟨vs,o,he⟩:=h
 have:vs=l.map f:=by
  have d:=o;obtain ⟨A,c,_,_,hA⟩:=d;have E:vs.length=l.length:=by have:=hA.1;omega
  refine List.ext_getElem? fun i=>?_
  rcases Do i l.length with hi | hi
  ·obtain ⟨u,D,o⟩:=he i _ (CQ hi);rw [D,Dz,CQ hi,o];rfl
  ·rw [Dl (by omega),Dl (by simp;omega)]
 rw [<-this];exact o
theorem intsOpen (h:DataW.trod enc Tryz.prog w base (fun _=>true) held fuel 39 cs=some x):∃v l,cs=[v]/\zk w (fun _=>True) v l/\l.length<=9223372036854775807:=by
 obtain ⟨v,l,rfl,he,d,_⟩:=eachOpen (R:=fun u a=>u=Value.int .i64 a) Tryz.underlying39 (by kernel_rfl) (fun n cl y o=>by
  obtain ⟨k,rfl,_,_⟩:=DataW.trod_int Tryz.underlying3 o;exact ⟨_,k,rfl,rfl⟩) h
 exact ⟨v,l,rfl,row_of_each he,d⟩
theorem u8sOpen (h:DataW.trod enc Tryz.prog w base (fun _=>true) held fuel 51 cs=some x):∃v l,cs=[v]/\U8s w (fun _=>True) v l/\l.length<=9223372036854775807:=by
 obtain ⟨v,l,rfl,he,I,o⟩:=eachOpen (R:=fun u (a:Int)=>u=Value.int .u8 a/\0<=a/\a<=255) Tryz.underlying51 (by kernel_rfl) (fun n cl y D=>by
  obtain ⟨k,rfl,_,K⟩:=DataW.trod_int Tryz.underlying5 D;refine ⟨_,k,rfl,rfl,?_⟩;have this:=K;simp only [Lit.wf,IntKind.has,De,Dc] at this;have e1:IntKind.u8.min=0:=rfl;have e2:IntKind.u8.max=255:=rfl;omega) h
 obtain ⟨vs,J,d⟩:=he
 exact ⟨v,l,rfl,⟨row_of_each ⟨vs,J,fun i y D=>by
  obtain ⟨u,h1,E,_⟩:=d i y D;exact ⟨u,h1,E⟩⟩,fun a G=>by obtain ⟨u,h⟩:=o a G;exact h.2⟩,I⟩
theorem intssOpen (h:DataW.trod enc Tryz.prog w base (fun _=>true) held fuel 22 cs=some x):∃v l,cs=[v]/\zP w (fun _=>True) v l/\l.length<=9223372036854775807/\∀a∈l,a.length<=9223372036854775807:=by
 obtain ⟨v,l,rfl,he,I,D⟩:=eachOpen (R:=fun u a=>zk w (fun _=>True) u a/\a.length<=9223372036854775807) Tryz.underlying22 (by kernel_rfl) (fun n cl y E=>by
  obtain ⟨v,l,rfl,h1,d⟩:=intsOpen E;exact ⟨v,l,rfl,h1,d⟩) h
 obtain ⟨vs,J,o⟩:=he
 exact ⟨v,l,rfl,⟨vs,J,fun i y E=>by
  obtain ⟨u,h1,d,_⟩:=o i y E;exact ⟨u,h1,d⟩⟩,I,fun a G=>by obtain ⟨u,h⟩:=D a G;exact h.2⟩
theorem bytesOpen {d:DataW H} {p:List MemPlace} {b:Nat} (o:Value.okWide Tryz.prog W .any b 51 v) (h:DataW.Trod enc Tryz.prog w base (fun _=>true) held 51 v d p):∃l,U8s w (fun _=>True) v l/\l.length<=9223372036854775807:=by
 obtain ⟨fuel,h⟩:=h;obtain ⟨v',l,e,G,E⟩:=u8sOpen h;refine ⟨l,?_,E⟩
 have D:∀cs,v≠.agg cs:=by
  rintro cs rfl;unfold Value.okWide at o;rw [Tryz.underlying51] at o;simp [Cell.okWide,Cell.ok,Tryz.underlying51] at o
 have:v.cells=#[v]:=by
  cases v <;> first | rfl | exact absurd rfl (D _)
 rw [this] at e;injection e with e;subst e;exact G
end
end
section
open Go.RowKit
def nuB (b:UInt8):Prop:=b.toNat=45\/(48<=b.toNat/\b.toNat<=57)
theorem mem_dec (u:Nat):∀b∈Lib.decDigits u,nuB b:=by
 induction u using Nat.strongRecOn with
 | ind u ih=>
  intro b hb;by_cases d:u<10
  ·rw [dec_small d] at hb;rw [Dy.1 hb];have:=Cb d;exact .inr ⟨by omega,by omega⟩
  ·rw [dec_big d] at hb;rcases DF.1 hb with hb | hb
   ·exact ih (u / 10) (by omega) b hb
   ·rw [Dy.1 hb];have:=Cb (Nat.mod_lt u (show 0<10 by decide));exact .inr ⟨by omega,by omega⟩
theorem mem_itoa (n:Int):∀b∈Lib.itoa n,nuB b:=by
 intro b hb;by_cases h:n<0
 ·rw [itoa_min h] at hb;rcases DE.1 hb with rfl | hb
  ·exact .inl rfl
  ·exact mem_dec _ b hb
 ·rw [itoa_pos (by omega)] at hb;exact mem_dec _ b hb
theorem itoa_ne (n:Int):Lib.itoa n≠[]:=by
 by_cases h:n<0
 ·rw [itoa_min h];simp
 ·obtain ⟨k,-,l,d⟩:=dec_head n.toNat;rw [itoa_pos (by omega),d];simp
theorem wI_head (n:Int) (rest:List UInt8):∃b t,wI n++rest=b :: t/\nuB b:=by
 cases h:Lib.itoa n with
 | nil=>exact absurd h (itoa_ne n)
 | cons b t=>exact ⟨b,t++[59]++rest,by simp [wI,h],mem_itoa n b (by rw [h];exact DC ..)⟩
theorem cutAt_app {c:UInt8}:∀{a:List UInt8} (rest:List UInt8),c∉a->BE c (a++c :: rest)=some (a,rest)
 | [],rest,_=>by simp [BE]
 | x :: a,rest,h=>by
  have d:(x==c)=false:=by
   rw [Df];exact fun e=>h (by rw [e];exact DC ..)
  simp only [List.cons_append,BE,d];rw [cutAt_app rest (fun hm=>h (Dm _ hm))];rfl
theorem numP_itoa {c:UInt8} {n:Int} (h:BO n) (d:¬ nuB c) (rest:List UInt8):numP c (Lib.itoa n++c :: rest)=some (n,rest):=by
 rw [numP_ref,cutAt_app rest (fun hm=>d (mem_itoa n c hm)),Option.bind_some];simp only;rw [refNum_of h];rfl
theorem intF_wI {n:Int} (h:BO n) (rest:List UInt8):AE (wI n++rest,false)=(n,(rest,false)):=by
 have e:wI n++rest=Lib.itoa n++59 :: rest:=by simp [wI]
 have d:=numP_itoa (c:=59) h (by unfold nuB;decide) rest;unfold AE numS;simp only [e,d];rfl
theorem elsF_wI:∀(l:List Int) (rest:List UInt8) (acc:List Int) (f:Nat),(∀x∈l,BO x)->(l.flatMap wI++93 :: rest).length<=f+1->AD f (l.flatMap wI++93 :: rest,false) acc=(acc++l,(93 :: rest,false))
 | [],rest,acc,0,_,_=>by simp [AD]
 | [],rest,acc,f+1,_,_=>by
  unfold AD;rw [if_pos (.inr rfl)];simp
 | x :: l,rest,acc,f,o,hf=>by
  obtain ⟨b,t,d,E⟩:=wI_head x (l.flatMap wI++93 :: rest);have e:(x :: l).flatMap wI++93 :: rest=wI x++(l.flatMap wI++93 :: rest):=by simp
  have D:2<=(wI x).length:=by
   cases h:Lib.itoa x with
   | nil=>exact absurd h (itoa_ne x)
   | cons b t=>simp [wI,h]
  rw [e] at hf⊢;rw [Da] at hf;obtain ⟨f,rfl⟩:∃f',f=f'+1:=⟨f - 1,by simp at hf;omega⟩;unfold AD
  rw [if_neg (by
   rintro (h | h)
   ·unfold Ad at h;rw [d] at h;simp at h
   ·rw [d] at h;simp only [List.head?_cons,Option.some.injEq] at h;subst h
    revert E
    unfold nuB;decide),intF_wI (o x (DC ..))]
  simp only;rw [elsF_wI l rest (acc++[x]) f (fun y G=>o y (Dm _ G)) (by omega)];simp
theorem intsF_wL (h:∀x∈l,BO x) (rest:List UInt8):Ao (wL l++rest,false)=(l,(rest,false)):=by
 have e:wL l++rest=91 :: (l.flatMap wI++93 :: rest):=by simp [wL]
 unfold Ao;rw [e]
 rw [if_neg (by
  rintro (h | h)
  ·simp [Ad] at h
  ·simp at h)]
 simp only [List.tail_cons];rw [elsF_wI l rest [] _ h (Nat.le_succ _)];unfold intsE;rw [if_neg (by simp [Ad])];simp
end
section
open Go.RowKit
attribute [local go_sem ↓] Go.wp_at_zero Go.wp_at_succ
def dgSX (x:Nat) (c:UInt8):Nat:=(48271*x+c.toNat+1) % 2147483647
def dgSY (y:Nat) (c:UInt8):Nat:=(40692*y+c.toNat+1) % 2147483629
def dgRX (x:Nat) (l:List UInt8):Nat:=l.foldl dgSX x
def dgRY (y:Nat) (l:List UInt8):Nat:=l.foldl dgSY y
def four (n:Nat):List UInt8:=[UInt8.ofNat (n / 16777216),UInt8.ofNat (n / 65536),UInt8.ofNat (n / 256),UInt8.ofNat n]
def Cy (l:List UInt8):List UInt8:=four (dgRX 20 l)++four (dgRY 26 l)
def lenb (l:List UInt8):List UInt8:=four l.length
def Br (a b:List UInt8):List UInt8:=Cy (1 :: (lenb a++(a++b)))
theorem dgSX_lt (x:Nat) (c:UInt8):dgSX x c<2147483647:=Nat.mod_lt _ (by decide)
theorem dgSY_lt (x:Nat) (c:UInt8):dgSY x c<2147483629:=Nat.mod_lt _ (by decide)
theorem dgRX_lt:∀(l:List UInt8) (x:Nat),x<2147483647->dgRX x l<2147483647
 | [],_,h=>h
 | c :: l,x,_=>dgRX_lt l (dgSX x c) (dgSX_lt x c)
theorem dgRY_lt:∀(l:List UInt8) (x:Nat),x<2147483629->dgRY x l<2147483629
 | [],_,h=>h
 | c :: l,x,_=>dgRY_lt l (dgSY x c) (dgSY_lt x c)
theorem CB (x:Nat) (a b:List UInt8):dgRX x (a++b)=dgRX (dgRX x a) b:=by simp [dgRX]
theorem CC (x:Nat) (a b:List UInt8):dgRY x (a++b)=dgRY (dgRY x a) b:=by simp [dgRY]
theorem AF (l:List UInt8):(Cy l).length=8:=rfl
theorem Tryz.infoU8:(Tryz.prog.info? 5).map (fun i=>(i.zero,i.size,i.bytes))=some (some (.int .u8 0),1,1):=by kernel_rfl
theorem lclone_calls (s:ByteArray) (w:World) (a3:s.size<=281474976710656):
  Calls Tryz.prog 144 #[.string s] w fun e w'=>e=.returned (.string s)/\Below w.heap.size w w':=by
 by_cases h0:s.size=0
 ·have hs:s=⟨#[]⟩:=by
   apply ByteArray.ext;exact Array.eq_empty_of_size_eq_zero h0
  subst hs
  go_enter Tryz.func144,Tryz.ntmps144
  go_wp2;go_ret;exact ⟨rfl,Below.refl _ _⟩
 ·obtain ⟨i0,V,a1,o,a2⟩:=info_parts Tryz.infoU8;have d:(Tryz.prog.info? 5).map (·.size)=some 1:=by rw [V];simp [o]
  have Q:Tryz.prog.cellsOf 5=1:=by simp [Program.cellsOf,V,o]
  obtain ⟨M,G⟩:=DT (madeCells (Value.int .u8 0).cells (((s.size:Nat):Int).toNat*i0.size));have a4:M.size=s.size:=by rw [G,size_madeCells,o];simp
  have a6:∀W:World,(Instr.makeSlice 51 (.int .i64 (s.size:Int)) (.int .i64 (s.size:Int))).run Tryz.prog W=.ok (.slice (some ⟨W.heap.size,0,none⟩) s.size s.size) (W.alloc (.cells M 5)):=fun W=>by
   have h:=run_make (P:=Tryz.prog) W 51 5 i0 (.int .u8 0) Tryz.underlying51 V a1 .i64 .i64 (s.size:Int) (s.size:Int) (by omega) (by omega) (by rw [a2];omega) (by omega);rw [<-G] at h;simpa using h
  clear G;have U:=Lib.run_copy_row_string (P:=Tryz.prog) (w.alloc (.cells M 5)) 51 9 3 5 w.heap.size 0 s.size s.size s M 5 Tryz.underlying51 d (DD w _) (CS _) (by omega);obtain ⟨Y,J⟩:=DT ((M.toList.take 0++Lib.byteCells s.data.toList++M.toList.drop (0+s.size)).toArray);rw [<-J] at U
  have D:Y.toList=Lib.byteCells s.data.toList:=by
   rw [J,List.toList_toArray,List.take_zero,List.nil_append,List.drop_of_length_le (by rw [Array.length_toList];omega),List.append_nil]
  have a5:Y.size=s.size:=by rw [<-Array.length_toList,D,Lib.byteCells_length,<-Lib.size_eq]
  have E:((w.alloc (.cells M 5)).setRow w.heap.size Y).heap[w.heap.size]?=some (.cells Y 5 (0,0)):=setRow_heap _ _ M _ 5 (0,0) (DD w _);have a0:s.data.toList≠[]:=fun e=>h0 (by rw [Lib.size_eq,e];rfl)
  have I:=Lib.run_unsafeString_row (P:=Tryz.prog) ((w.alloc (.cells M 5)).setRow w.heap.size Y) 122 3 9 5 Tryz.underlying122 Q w.heap.size Y.size (by unfold World.shape?;rw [E]) s.data.toList a0 (by rw [<-Lib.size_eq];omega) (by rw [<-Lib.size_eq];omega)
   (fun j x hx=>Lib.cells_of_row E Y.size j _ (by rw [List.take_of_length_le (by rw [Array.length_toList];exact CS _),D];simp [Lib.byteCells,hx]))
  rw [<-Lib.size_eq] at I;clear J
  go_enter Tryz.func144,Tryz.ntmps144
  go_wp2;go_ret;have K:Below w.heap.size w (w.alloc (.cells M 5)):=(Below.refl _ w).alloc (CS _) _;have O:Below w.heap.size (w.alloc (.cells M 5)) ((w.alloc (.cells M 5)).setRow w.heap.size Y):=⟨rfl,rfl,rfl,by simp,fun k hk=>setRow_other _ _ _ _ (by omega)⟩;exact ⟨rfl,Lib.below_freeze (K.trans O) (p:=⟨w.heap.size,0,none⟩) (CS _) _⟩
theorem sclone_calls (s:ByteArray) (w:World) (d:s.size<=281474976710656):
  Calls Tryz.prog 123 #[.string s] w fun e w'=>e=.returned (.string s)/\Below w.heap.size w w':=by
 go_enter Tryz.func123,Tryz.ntmps123
 go_wp2_with (go_at_call 144;refine (lclone_calls _ _ d).mono ?_;rintro e w' ⟨rfl,o⟩)
 go_ret;exact ⟨rfl,‹_›⟩
def dmk (l:List UInt8):ByteArray:=⟨l.toArray⟩
def strI (ns:List Int):ByteArray:=ns.foldl (fun r n=>r.push (UInt8.ofNat n.toNat)) ByteArray.empty
theorem strI_eq (ns:List Int):strI ns=dmk (ns.map fun n=>UInt8.ofNat n.toNat):=by
 have h:∀(ns:List Int) (r:ByteArray),ns.foldl (fun r n=>r.push (UInt8.ofNat n.toNat)) r=⟨r.data++(ns.map fun n=>UInt8.ofNat n.toNat).toArray⟩:=by
  intro ns
  induction ns with
  | nil=>intro r;simp
  | cons n ns ih=>intro r;simp only [List.foldl_cons];rw [ih];simp [ByteArray.push]
 unfold strI dmk;rw [h];simp [ByteArray.empty,ByteArray.emptyWithCapacity];rfl
theorem dconv_raw (w:World) (b:Nat) (ns:List Int) (t:TypeId) (fz:Nat×Nat) (c:Nat) (hh:w.heap[b]?=some (.cells (ns.map (Value.int .u8)).toArray t fz)):
  (convert 51 9 (.slice (some ⟨b,0,none⟩) ns.length c)).run Tryz.prog w=.ok (.string (strI ns)) w:=by
 rw [run_convert_bytes_string w 51 9 5 (some ⟨b,0,none⟩) ns.length c Tryz.underlying51 Tryz.underlying5 Tryz.underlying9]
 have d:=run_loadCells_list (P:=Tryz.prog) w ⟨b,0,none⟩ (ns.map (Value.int .u8)) (fun j v o=>by
  have:(⟨b,0,none⟩:Addr).add j=⟨b,j,none⟩:=by unfold Addr.add;split <;> simp_all
  rw [this];unfold World.cell?;simp only [hh];simpa using o)
 rw [DA] at d;exact run_bytesToString w ⟨b,0,none⟩ ns.length c ns d
theorem dconv4 (w:World) (a0 a1 a2 a3:Int):
  (convert 51 9 (.slice (some ⟨w.heap.size,0,none⟩) 4 4)).run Tryz.prog (w.alloc (.cells #[.int .u8 a0,.int .u8 a1,.int .u8 a2,.int .u8 a3] 5))=
   .ok (.string (strI [a0,a1,a2,a3])) (w.alloc (.cells #[.int .u8 a0,.int .u8 a1,.int .u8 a2,.int .u8 a3] 5)):=
 dconv_raw _ _ [a0,a1,a2,a3] 5 (0,0) 4 (DD _ _)
theorem dconv8 (w:World) (t:TypeId) (a0 a1 a2 a3 a4 a5 a6 a7:Int):
  (convert 51 9 (.slice (some ⟨w.heap.size,0,none⟩) 8 8)).run Tryz.prog (w.alloc (.cells #[.int .u8 a0,.int .u8 a1,.int .u8 a2,.int .u8 a3,.int .u8 a4,.int .u8 a5,.int .u8 a6,.int .u8 a7] t))=
   .ok (.string (strI [a0,a1,a2,a3,a4,a5,a6,a7])) (w.alloc (.cells #[.int .u8 a0,.int .u8 a1,.int .u8 a2,.int .u8 a3,.int .u8 a4,.int .u8 a5,.int .u8 a6,.int .u8 a7] t)):=
 dconv_raw _ _ [a0,a1,a2,a3,a4,a5,a6,a7] t (0,0) 8 (DD _ _)
theorem strI_four {a0 a1 a2 a3:Int} (n:Nat) (h0:a0=((n / 16777216 % 256:Nat):Int)) (h1:a1=((n / 65536 % 256:Nat):Int)) (d:a2=((n / 256 % 256:Nat):Int)) (o:a3=((n % 256:Nat):Int)):
  strI [a0,a1,a2,a3]=dmk (four n):=by
 rw [strI_eq]
 have e (k:Nat):UInt8.ofNat ((k % 256:Nat):Int).toNat=UInt8.ofNat k:=by
  rw [Int.toNat_natCast];apply UInt8.toNat_inj.1;simp
 simp only [List.map_cons,List.map_nil,h0,h1,d,o,e];rfl
theorem strI_size (ns:List Int):(strI ns).size=ns.length:=by
 rw [strI_eq];simp [dmk,ByteArray.size]
theorem dret_str {a b:ByteArray} (h:a=b):Ending.returned (.string a)=.returned (.string b):=by rw [h]
theorem dlen_calls (s:ByteArray) (w:World) (d:s.size<=1000000000):
  Calls Tryz.prog 104 #[.string s] w fun e w'=>e=.returned (.string (dmk (lenb s.data.toList)))/\Below w.heap.size w w':=by
 have o:=dconv4 w
 go_enter Tryz.func104,Tryz.ntmps104
 go_wp2;go_ret
 exact ⟨dret_str (by
  have e:lenb s.data.toList=four s.size:=rfl;rw [e];refine strI_four s.size ?_ ?_ ?_ ?_ <;> omega),(Below.refl _ _).alloc (CS _) _⟩
theorem dbytes4_calls (n:Nat) (w:World) (d:n<2147483648):
  Calls Tryz.prog 41 #[.int .i64 n] w fun e w'=>e=.returned (.string (dmk (four n)))/\Below w.heap.size w w':=by
 have o:=dconv4 w
 go_enter Tryz.func41,Tryz.ntmps41
 go_wp2;go_ret;exact ⟨dret_str (by refine strI_four n ?_ ?_ ?_ ?_ <;> omega),(Below.refl _ _).alloc (CS _) _⟩
def digV (l:List UInt8):Value:=.agg (l.map fun c=>Value.int .u8 (c.toNat:Int)).toArray
theorem dtext_calls (a0 a1 a2 a3 a4 a5 a6 a7:Int) (w:World):
  Calls Tryz.prog 83 #[.agg #[.int .u8 a0,.int .u8 a1,.int .u8 a2,.int .u8 a3,.int .u8 a4,.int .u8 a5,.int .u8 a6,.int .u8 a7]] w fun e w'=>e=.returned (.string (strI [a0,a1,a2,a3,a4,a5,a6,a7]))/\Below w.heap.size w w':=by
 have o:=dconv8 w 143
 go_enter Tryz.func83,Tryz.ntmps83
 go_wp2_with (go_at_call 123;refine (sclone_calls _ _ ?_).mono ?_;(rw [strI_size];simp only [DR,DS];omega);rintro e w' ⟨rfl,d⟩)
 go_ret;exact ⟨rfl,Below.trans ((Below.refl _ _).alloc (CS _) _) (Below.mono ‹_› (by simp))⟩
def dcat (ss:List ByteArray):List UInt8:=(ss.map (·.data.toList)).flatten
theorem dcat_snoc (ss:List ByteArray) (k:Nat) (h:k<ss.length):dcat (ss.take (k+1))=dcat (ss.take k)++ss[k].data.toList:=by
 unfold dcat;rw [CZ h,DG,List.flatten_append];simp
theorem dtake_snoc (l:List UInt8) (k:Nat) (h:k<l.length):l.take (k+1)=l.take k++[l[k]]:=by
 rw [CZ h]
theorem bytesRow_get (s:ByteArray) (c j:Nat) (d:j<s.size):(bytesRow s c)[j]?=some (.int .u8 (s.data.toList[j]'(by simpa using d)).toNat):=by
 unfold bytesRow;rw [Array.getElem?_append_left (by simpa using d)];rw [Array.getElem?_map,Array.getElem?_eq_getElem (by simpa using d)];simp
theorem digV_four (x y:Nat) (d:x<2147483647) (o:y<2147483629):digV (four x++four y)=.agg #[.int .u8 ((x:Int) / 16777216),.int .u8 ((x:Int) / 65536 % 256),.int .u8 ((x:Int) / 256 % 256),.int .u8 ((x:Int) % 256),.int .u8 ((y:Int) / 16777216),.int .u8 ((y:Int) / 65536 % 256),.int .u8 ((y:Int) / 256 % 256),.int .u8 ((y:Int) % 256)]:=by
 have e1:(x / 16777216) % 256=x / 16777216:=by omega
 have e2:(y / 16777216) % 256=y / 16777216:=by omega
 simp [digV,four,e1,e2]
theorem dbelow_row {g:Nat} {w0 w:World} (o:Below B w0 w) (d:B<=g) (cs:Array Value):Below B w0 (w.setRow g cs):=
 o.trans ⟨rfl,rfl,rfl,by simp [World.setRow],fun k D=>setRow_other w g k cs (by omega)⟩
theorem dofn_calls (w:World) (b n:Nat) (ss:List ByteArray) (hn:n=ss.length) (b3:b<w.heap.size) (d7:ss.length<=5)
  (hc:∀i (h:i<ss.length),w.cell? ⟨b,i,none⟩=some (.string ss[i])) (a3:∀i (h:i<ss.length),ss[i].size<=1000000000):
  Calls Tryz.prog 82 #[.slice (some ⟨b,0,none⟩) n n] w fun e w'=>e=.returned (digV (Cy (dcat ss)))/\Below w.heap.size w w':=by
 subst hn;have H:=zh hc;clear hc;have H2:=zh a3;clear a3
 go_enter Tryz.func82,Tryz.ntmps82
 go_wp2;go_loopw [3,4,13] (fun x y i wr=>∃k:Nat,k<=ss.length/\i=.int .i64 k/\x=.int .u64 (dgRX 20 (dcat (ss.take k)))/\y=.int .u64 (dgRY 26 (dcat (ss.take k)))/\Hid (wr.heap[w.heap.size]?=some (.cells #[.int .u8 0,.int .u8 0,.int .u8 0,.int .u8 0,.int .u8 0,.int .u8 0,.int .u8 0,.int .u8 0] 143 (0,0)))/\Below w.heap.size w wr) (fun _ _ i _=>ss.length - (intOf i).toNat)
 case atStart=>exact ⟨0,Dg _,rfl,rfl,rfl,DD _ _,(Below.refl _ _).alloc (CS _) _⟩
 case round=>
  obtain ⟨k,hk,rfl,rfl,rfl,hz,hb⟩:=hrel;by_cases G:k<ss.length
  ·have hx:=dcat_snoc ss k G;have O:=(hb.cell (p:=⟨b,k,none⟩) b3).trans (H.out k G);have b5:=H2.out k G;obtain ⟨s,hs⟩:=DT (ss[k]);rw [<-hs] at O hx b5;have HS:=zh hs;clear hs;have HX:=zh hx;clear hx;have I:=dgRX_lt (dcat (ss.take k)) 20 (by decide);have J:=dgRY_lt (dcat (ss.take k)) 26 (by decide);obtain ⟨x0,d⟩:=DT (dgRX 20 (dcat (ss.take k)));obtain ⟨y0,D⟩:=DT (dgRY 26 (dcat (ss.take k)));rw [<-d] at I⊢;rw [<-D] at J⊢;have a9:=zh d;clear d;have b0:=zh D;clear D;have E:=run_bytes_of_string wr 9 51 5 s Tryz.underlying9 Tryz.underlying51 Tryz.underlying5;obtain ⟨c,a2⟩:=DT (grownCap wr s.size 0 5);rw [<-a2] at E;clear a2;obtain ⟨C,hC⟩:=DT (bytesRow s c);rw [<-hC] at E;have HC:=zh hC;clear hC;go_wp2
   have K:Hid (∀j (hj:j<s.size),(wr.alloc (.cells C 5 (C.size,C.size+1))).cell? ⟨wr.heap.size,j,none⟩=some (.int .u8 (s.data.toList[j]'(by simpa using hj)).toNat)):=by
    intro j hj;rw [HC.out];have hh:=DD wr (.cells (bytesRow s c) 5 ((bytesRow s c).size,(bytesRow s c).size+1));unfold World.cell?;simp only [hh];exact bytesRow_get s c j hj
   go_loop [3,4,20] (fun x y i=>∃j:Nat,j<=s.size/\i=.int .i64 j/\x=.int .u64 (dgRX x0 (s.data.toList.take j))/\y=.int .u64 (dgRY y0 (s.data.toList.take j))) (fun _ _ i=>s.size - (intOf i).toNat)
   case atStart=>exact ⟨0,Dg _,rfl,rfl,rfl⟩
   case round=>
    obtain ⟨j,hj,rfl,rfl,rfl⟩:=hrel;by_cases U:j<s.size
    ·have b2:=K.out j U;have M:=dtake_snoc s.data.toList j (by simpa using U);have b7:=dgRX_lt (s.data.toList.take j) x0 I;have b8:=dgRY_lt (s.data.toList.take j) y0 J;obtain ⟨ch,Q⟩:=DT (s.data.toList[j]'(by simpa using U));rw [<-Q] at b2 M;clear Q;have hX:dgRX x0 (s.data.toList.take (j+1))=dgSX (dgRX x0 (s.data.toList.take j)) ch:=by rw [M,CB];rfl
     have hY:dgRY y0 (s.data.toList.take (j+1))=dgSY (dgRY y0 (s.data.toList.take j)) ch:=by rw [M,CC];rfl
     clear M;have V:=zh hX;clear hX;have a0:=zh hY;clear hY;obtain ⟨x1,a4⟩:=DT (dgRX x0 (s.data.toList.take j));obtain ⟨y1,a5⟩:=DT (dgRY y0 (s.data.toList.take j));rw [<-a4] at b7 V⊢;rw [<-a5] at b8 a0⊢;clear a4 a5;have Q:=ch.toNat_lt;go_wp2
     go_round
     case rel=>exact ⟨j+1,by omega,by go_num,by rw [V.out];unfold dgSX;congr 1,by rw [a0.out];unfold dgSY;congr 1⟩
     case measure=>simp [intOf];omega
    ·have:j=s.size:=by omega
     subst this
     have e1:dgRX x0 (s.data.toList.take s.size)=dgRX 20 (dcat (ss.take (k+1))):=by
      rw [List.take_of_length_le (by simp),HX.out,CB,<-a9.out]
     have e2:dgRY y0 (s.data.toList.take s.size)=dgRY 26 (dcat (ss.take (k+1))):=by
      rw [List.take_of_length_le (by simp),HX.out,CC,<-b0.out]
     rw [e1,e2];clear e1 e2;go_wp2;go_roundw
     case rel=>exact ⟨k+1,by omega,by go_num,rfl,rfl,(Dk _ _ _ (za hz.out)).trans hz,(hb.alloc hb.size _).drew⟩
     case measure=>simp [intOf];omega
  ·obtain rfl:k=ss.length:=by omega
   rw [Dd];have I:=dgRX_lt (dcat ss) 20 (by decide);have J:=dgRY_lt (dcat ss) 26 (by decide);obtain ⟨x0,d⟩:=DT (dgRX 20 (dcat ss));obtain ⟨y0,D⟩:=DT (dgRY 26 (dcat ss));have hd:Cy (dcat ss)=four x0++four y0:=by rw [d,D];rfl
   rw [<-d] at I⊢;rw [<-D] at J⊢;clear d D;have HD:=zh hd;clear hd;go_wp2;refine wp_loop_rounds 5 ?_;rw [rounds_succ];go_wp2
   go_region
   go_wp2;rw [rounds_succ];go_wp2
   go_region
   go_wp2;rw [rounds_succ];go_wp2
   go_region
   go_wp2;rw [rounds_succ];go_wp2
   go_region
   go_wp2;rw [rounds_succ];have a6:∀o:Obj,(wr.alloc o).heap[w.heap.size]?=some (.cells #[.int .u8 0,.int .u8 0,.int .u8 0,.int .u8 0,.int .u8 0,.int .u8 0,.int .u8 0,.int .u8 0] 143 (0,0)):=fun o=>(Dk _ _ _ (za hz.out)).trans hz.out
   go_wp2_with (refine wpList_store_row rfl 143 (.tmp 2) (.tmp 61) rfl w.heap.size #[.int .u8 (x0 / 16777216),.int .u8 (x0 / 65536 % 256),.int .u8 (x0 / 256 % 256),.int .u8 (x0 % 256),.int .u8 (y0 / 16777216),.int .u8 (y0 / 65536 % 256),.int .u8 (y0 / 256 % 256),.int .u8 (y0 % 256)] rfl rfl 143 #[.int .u8 0,.int .u8 0,.int .u8 0,.int .u8 0,.int .u8 0,.int .u8 0,.int .u8 0,.int .u8 0] ?c1 ?c2 ?c3 ?c4 ?_)
   case c1=>exact a6 _
   case c2=>kernel_rfl
   case c3=>rfl
   case c4=>simp [Value.oneCell']
   refine DI (v:=.agg #[.int .u8 (x0 / 16777216),.int .u8 (x0 / 65536 % 256),.int .u8 (x0 / 256 % 256),.int .u8 (x0 % 256),.int .u8 (y0 / 16777216),.int .u8 (y0 / 65536 % 256),.int .u8 (y0 / 256 % 256),.int .u8 (y0 % 256)]) ?_ rfl ⟨?_,?_⟩
   ·exact results_cell_row (p:=2) (ty:=143) rfl _ _ w.heap.size 143 _ (0,0) _ rfl (setRow_heap _ _ _ _ 143 (0,0) (a6 _)) Tryz.underlying143 rfl (by kernel_rfl)
   ·rw [HD.out,digV_four x0 y0 I J]
   ·exact dbelow_row (((hb.alloc hb.size _).drew.drew.drew.drew)) (CS _) _
theorem text_dig (l:List UInt8) (h:l.length=8) (w:World):
  Calls Tryz.prog 83 #[digV l] w fun e w'=>e=.returned (.string (dmk l))/\Below w.heap.size w w':=by
 match l,h with
 | [a,b,c,d,e,f,g,i],_=>
  refine (dtext_calls a.toNat b.toNat c.toNat d.toNat e.toNat f.toNat g.toNat i.toNat w).mono ?_;rintro e w' ⟨rfl,o⟩;refine ⟨?_,o⟩;rw [strI_eq];simp
theorem BM {a w w':World} (h:Below B a w) (d:Below w.heap.size w w') (o:B<=a.heap.size):Below B a w':=h.trans (d.mono (CU o h.size))
theorem dcells_new (w:World) (ss:List ByteArray):∀i (h:i<ss.length),(w.alloc (.cells (ss.map Value.string).toArray 9)).cell? ⟨w.heap.size,i,none⟩=some (.string ss[i]):=by
 intro i h;have hh:=DD w (.cells (ss.map Value.string).toArray 9);unfold World.cell?;simp only [hh];simp [h]
theorem dofn_list (w:World) (n:Nat) (ss:List ByteArray) (E:n=ss.length) (d:ss.length<=5) (o:∀i (h:i<ss.length),ss[i].size<=1000000000):
  Calls Tryz.prog 82 #[.slice (some ⟨w.heap.size,0,none⟩) n n] (w.alloc (.cells (ss.map Value.string).toArray 9)) fun e w'=>e=.returned (digV (Cy (dcat ss)))/\Below w.heap.size w w':=by
 refine (dofn_calls _ w.heap.size n ss E (by simp) d (dcells_new w ss) o).mono ?_;rintro e w' ⟨rfl,D⟩;exact ⟨rfl,BM ((Below.refl _ w).alloc (CS _) _) D (CS _)⟩
theorem dofn1 (w:World) (s:ByteArray) (d:s.size<=1000000000):
  Calls Tryz.prog 82 #[.slice (some ⟨w.heap.size,0,none⟩) 1 1] (w.alloc (.cells #[.string s] 9)) fun e w'=>e=.returned (digV (Cy s.data.toList))/\Below w.heap.size w w':=by
 have h:=dofn_list w 1 [s] rfl (by simp) (by intro i h;have:i=0:=(by simpa using h);subst this;exact d);have e:dcat [s]=s.data.toList:=by simp [dcat]
 rw [e] at h;exact h
theorem dofn4 (w:World) (s0 s1 s2 s3:ByteArray) (h0:s0.size<=1000000000) (h1:s1.size<=1000000000) (d:s2.size<=1000000000) (o:s3.size<=1000000000):
  Calls Tryz.prog 82 #[.slice (some ⟨w.heap.size,0,none⟩) 4 4] (w.alloc (.cells #[.string s0,.string s1,.string s2,.string s3] 9)) fun e w'=>e=.returned (digV (Cy (s0.data.toList++(s1.data.toList++(s2.data.toList++s3.data.toList)))))/\Below w.heap.size w w':=by
 have h:=dofn_list w 4 [s0,s1,s2,s3] rfl (by simp) (by
  intro i h
  match i,h with
  | 0,_=>exact h0
  | 1,_=>exact h1
  | 2,_=>exact d
  | 3,_=>exact o)
 have e:dcat [s0,s1,s2,s3]=s0.data.toList++(s1.data.toList++(s2.data.toList++s3.data.toList)):=by simp [dcat]
 rw [e] at h;exact h
theorem dmk_size (l:List UInt8):(dmk l).size=l.length:=by simp [dmk,ByteArray.size]
theorem dmk_data (l:List UInt8):(dmk l).data.toList=l:=by simp [dmk]
theorem Of_calls (s:ByteArray) (w:World) (D:s.size<=1000000000):
  Calls Tryz.prog 52 #[.string s] w fun e w'=>e=.returned (.string (dmk (Cy s.data.toList)))/\Below w.heap.size w w':=by
 go_enter Tryz.func52,Tryz.ntmps52
 go_wp2_with fail
 refine (dofn1 w s D).mono ?_;rintro e w1 ⟨rfl,d⟩
 go_wp2_with fail
 refine (text_dig _ (AF _) _).mono ?_;rintro e w2 ⟨rfl,o⟩
 go_wp2_with fail
 go_ret;exact ⟨rfl,BM d o (CS _)⟩
theorem Chain_calls (a b:ByteArray) (w:World) (E:a.size<=1000000000) (G:b.size<=1000000000):
  Calls Tryz.prog 63 #[.string a,.string b] w fun e w'=>e=.returned (.string (dmk (Br a.data.toList b.data.toList)))/\Below w.heap.size w w':=by
 go_enter Tryz.func63,Tryz.ntmps63
 go_wp2_with fail
 refine (dlen_calls a _ E).mono ?_;rintro e w1 ⟨rfl,d⟩
 go_wp2_with fail
 refine (dofn4 w1 ⟨#[1]⟩ _ a b (by decide) (by rw [dmk_size];exact Nat.le_of_ble_eq_true rfl) E G).mono ?_;rintro e w2 ⟨rfl,o⟩;rw [dmk_data]
 go_wp2_with fail
 refine (text_dig _ (AF _) _).mono ?_;rintro e w3 ⟨rfl,D⟩
 go_wp2_with fail
 go_ret;exact ⟨rfl,BM (BM d o (CS _)) D (CS _)⟩
theorem dapp_data1 (c:UInt8) (l:List UInt8) (a b:ByteArray):((⟨#[c]⟩:ByteArray)++dmk l++a++b).data.toList=c :: (l++(a.data.toList++b.data.toList)):=by simp [dmk]
theorem dmk_app (a b:List UInt8):dmk a++dmk b=dmk (a++b):=by
 apply ByteArray.ext;simp [dmk]
theorem rOf_calls (s:ByteArray) (w:World) (hs:s.size<=4000000000):
  Calls Tryz.prog 21 #[.string s] w fun e w'=>e=.returned (.string (dmk (Cy s.data.toList)))/\Below w.heap.size w w':=by
 go_enter Tryz.func21,Tryz.ntmps21
 go_wp2
 go_loop [3,4,5] (fun x y i=>∃j:Nat,j<=s.size/\i=.int .i64 j/\x=.int .i64 (dgRX 20 (s.data.toList.take j))/\y=.int .i64 (dgRY 26 (s.data.toList.take j))) (fun _ _ i=>s.size - (intOf i).toNat)
 case atStart=>exact ⟨0,Dg _,rfl,rfl,rfl⟩
 case round=>
  obtain ⟨j,hj,rfl,rfl,rfl⟩:=hrel;have J:=dgRX_lt (s.data.toList.take j) 20 (by decide);have M:=dgRY_lt (s.data.toList.take j) 26 (by decide);by_cases o:j<s.size
  ·have D:=dtake_snoc s.data.toList j (by simpa using o);obtain ⟨ch,d⟩:=DT (s[j]'o);rw [show s.data.toList[j]'(by simpa using o)=ch from d.symm] at D;have E:=zh d;clear d;have Q:dgRX 20 (s.data.toList.take (j+1))=dgSX (dgRX 20 (s.data.toList.take j)) ch:=by rw [D,CB];rfl
   have U:dgRY 26 (s.data.toList.take (j+1))=dgSY (dgRY 26 (s.data.toList.take j)) ch:=by rw [D,CC];rfl
   clear D;have G:=zh Q;clear Q;have I:=zh U;clear U;obtain ⟨x1,K⟩:=DT (dgRX 20 (s.data.toList.take j));obtain ⟨y1,O⟩:=DT (dgRY 26 (s.data.toList.take j));rw [<-K] at J G⊢;rw [<-O] at M I⊢;clear K O;have d:(s[j]'o).toNat<256:=by rw [<-E.out];exact ch.toNat_lt
   go_wp2
   go_round
   case rel=>exact ⟨j+1,by omega,by go_num,by rw [G.out,E.out];unfold dgSX;congr 1,by rw [I.out,E.out];unfold dgSY;congr 1⟩
   case measure=>simp [intOf];omega
  ·have:j=s.size:=by omega
   subst this;rw [List.take_of_length_le (by simp)] at J M⊢
   go_wp2_with (go_at_call 41;refine (dbytes4_calls _ _ (by omega)).mono ?_;rintro e w' ⟨rfl,V⟩)
   go_ret;exact ⟨dret_str (by rw [dmk_app];rfl),BM ‹_› ‹_› (CS _)⟩
theorem rChain_calls (a b:ByteArray) (w:World) (G:a.size<=1000000000) (I:b.size<=1000000000):
  Calls Tryz.prog 22 #[.string a,.string b] w fun e w'=>e=.returned (.string (dmk (Br a.data.toList b.data.toList)))/\Below w.heap.size w w':=by
 go_enter Tryz.func22,Tryz.ntmps22
 go_wp2_with fail
 refine (dbytes4_calls a.size _ (by omega)).mono ?_;rintro e w1 ⟨rfl,D⟩;have hf:(dmk (four a.size)).size<=4:=Nat.le_of_eq (by rw [dmk_size];rfl)
 go_wp2_with fail
 have o:((⟨#[1]⟩:ByteArray)++dmk (four a.size)++a++b).size<=4000000000:=by
  simp only [ByteArray.size_append,show (ByteArray.size ⟨#[1]⟩)=1 from rfl];omega
 have d:((⟨#[1]⟩:ByteArray)++dmk (four a.size)++a++b).data.toList=1 :: (lenb a.data.toList++(a.data.toList++b.data.toList)):=by
  exact dapp_data1 1 (four a.size) a b
 refine (rOf_calls _ _ o).mono ?_;rintro e w2 ⟨rfl,E⟩;rw [d];clear o d
 go_wp2_with fail
 go_ret;exact ⟨rfl,BM D E (CS _)⟩
end
section
open Go.RowKit
def BA (s:Rd):List UInt8×Rd:=match numS 58 s with
 | none=>([],([],true))
 | some (n,b)=>if n<0\/(b.length:Int)<n then ([],([],true)) else (b.take n.toNat,(b.drop n.toNat,false))
theorem textF_wT (rest:List UInt8) (h:t.length<=9223372036854775807):BA (wT t++rest,false)=(t,(rest,false)):=by
 have e:wT t++rest=Lib.itoa t.length++58 :: (t++rest):=by simp [wT]
 have d:=numP_itoa (c:=58) (n:=(t.length:Int)) ⟨by omega,by omega⟩ (by unfold nuB;decide) (t++rest);unfold BA numS;simp only [e,d];simp;omega
structure JS where
 ch:List Int
 steps:Int
 fin:Nat
 sg:List UInt8
def AO (ch:List Int) (steps:Int):List UInt8:=wL ch++wI steps
def zB (sg:List UInt8) (ch:List Int) (steps:Int):List UInt8:=Br sg (AO ch steps)
def zL (sg:List UInt8) (ch:List Int) (steps:Int):List UInt8:=wT (AO ch steps)++wT (zB sg ch steps)
noncomputable def zR (m:MZ) (s:List UInt8) (x:JS):Option JS:=
 let t1:=BA (s.drop x.fin,false)
 let t2:=BA t1.2
 let c:=Ao (t1.1,false)
 let k:=AE c.2
 if t2.2.2=true\/k.2.2=true\/k.1<=x.steps then none
 else if ¬ zL x.sg c.1 k.1 <+: s.drop x.fin then none
 else if loadE m c.1 k.1≠0 then none
 else some ⟨c.1,k.1,x.fin+(zL x.sg c.1 k.1).length,zB x.sg c.1 k.1⟩
noncomputable def lastJ (m:MZ) (s:List UInt8):Nat->JS->JS
 | 0,x=>x
 | f+1,x=>match zR m s x with
  | none=>x
  | some y=>lastJ m s f y
def RecOk (ch:List Int) (steps:Int):Prop:=(∀x∈ch,BO x)/\BO steps/\(AO ch steps).length<=9223372036854775807
theorem AJ (sg:List UInt8) (ch:List Int) (steps:Int):(zB sg ch steps).length=8:=rfl
theorem rec_read {sg ch rest} (h:RecOk ch steps):
  BA (zL sg ch steps++rest,false)=(AO ch steps,(wT (zB sg ch steps)++rest,false))/\BA (wT (zB sg ch steps)++rest,false)=(zB sg ch steps,(rest,false))/\
   Ao (AO ch steps,false)=(ch,(wI steps,false))/\AE (wI steps,false)=(steps,([],false)):=by
 refine ⟨?_,textF_wT rest (by rw [AJ];omega),?_,?_⟩
 ·unfold zL;rw [List.append_assoc];exact textF_wT _ h.2.2
 ·exact intsF_wL h.1 (wI steps)
 ·have:=intF_wI h.2.1 []
  rwa [List.append_nil] at this
theorem nextJ_rec {x:JS} (h:RecOk ch steps) (hp:zL x.sg ch steps <+: s.drop x.fin) (I:x.steps<steps) (E:loadE m ch steps=0):
  zR m s x=some ⟨ch,steps,x.fin+(zL x.sg ch steps).length,zB x.sg ch steps⟩:=by
 obtain ⟨rest,G⟩:=hp;obtain ⟨h1,d,o,D⟩:=rec_read (sg:=x.sg) (rest:=rest) h;unfold zR;simp only [<-G,h1,d,o,D];rw [if_neg (by simp;omega),if_neg (by simp),if_neg (by simp [E])]
theorem nextJ_some {x y:JS} (h:zR m s x=some y):
  ∃ch steps,x.steps<steps/\loadE m ch steps=0/\zL x.sg ch steps <+: s.drop x.fin/\(∀n∈ch,BO n)/\BO steps/\y=⟨ch,steps,x.fin+(zL x.sg ch steps).length,zB x.sg ch steps⟩:=by
 unfold zR at h;simp only at h
 split at h
 ·cases h
 rename_i h1
 split at h
 ·cases h
 rename_i d
 split at h
 ·cases h
 rename_i o
 injection h with h;have d:=Decidable.not_not.1 d;exact ⟨_,_,by omega,by simpa using o,d,(intsF_lv _).2,intF_bound _,h.symm⟩
theorem recB_pos (sg:List UInt8) (ch:List Int) (steps:Int):0<(zL sg ch steps).length:=by
 unfold zL wT;simp;omega
theorem AY {x y:JS} (h:zR m s x=some y):x.fin<y.fin/\y.fin<=s.length:=by
 obtain ⟨ch,st,-,-,hp,-,-,rfl⟩:=nextJ_some h;have h1:=recB_pos x.sg ch st;have d:=hp.length_le;rw [List.length_drop] at d;exact ⟨by show x.fin<x.fin+_;omega,by show x.fin+_<=_;omega⟩
theorem lastJ_fuel {m:MZ} {s:List UInt8}:∀(f f':Nat) (x:JS),s.length<=x.fin+f->s.length<=x.fin+f'->lastJ m s f x=lastJ m s f' x
 | 0,0,x,_,_=>rfl
 | 0,f'+1,x,h,_=>by
  unfold lastJ
  cases d:zR m s x with
  | none=>rfl
  | some y=>have:=AY d;omega
 | f+1,0,x,_,h=>by
  conv=>rhs;unfold lastJ
  unfold lastJ
  cases d:zR m s x with
  | none=>rfl
  | some y=>have:=AY d;omega
 | f+1,f'+1,x,h,o=>by
  unfold lastJ
  cases d:zR m s x with
  | none=>rfl
  | some y=>have:=AY d;exact lastJ_fuel f f' y (by omega) (by omega)
noncomputable def endJ (m:MZ) (s:List UInt8) (x:JS):JS:=lastJ m s s.length x
theorem endJ_none {x:JS} (h:zR m s x=none):endJ m s x=x:=by
 unfold endJ
 cases s.length with
 | zero=>rfl
 | succ n=>unfold lastJ;rw [h]
theorem endJ_some {x y:JS} (h:zR m s x=some y):endJ m s x=endJ m s y:=by
 obtain ⟨h1,o⟩:=AY h;unfold endJ;obtain ⟨n,d⟩:∃n,s.length=n+1:=⟨s.length - 1,by omega⟩
 conv=>lhs;rw [d];unfold lastJ
 rw [h];exact lastJ_fuel n s.length y (by omega) (by omega)
theorem rec_same {sg:List UInt8} {ch':List Int} {st st':Int} {l:List UInt8} (h:RecOk ch st) (I:RecOk ch' st') (hp:zL sg ch st <+: l) (E:zL sg ch' st' <+: l):ch=ch'/\st=st':=by
 obtain ⟨r,M⟩:=hp;obtain ⟨r',G⟩:=E;obtain ⟨h1,-,J,K⟩:=rec_read (sg:=sg) (rest:=r) h;obtain ⟨d,-,o,D⟩:=rec_read (sg:=sg) (rest:=r') I;rw [M] at h1;rw [G,h1] at d;injection d with e1 e2;rw [<-e1,J] at o;injection o with e3 e4;injection e4 with e4 e5;rw [<-e4,K] at D;injection D with e6 e7;exact ⟨e3,e6⟩
noncomputable def zC (m:MZ) (n:Nat):RS:=RS.run m n (loadS m [] 0)
theorem Bl (m:MZ):∀(a b:Nat) (s:RS),RS.run m (a+b) s=RS.run m b (RS.run m a s)
 | 0,b,s=>by rw [Nat.zero_add];rfl
 | a+1,b,s=>by
  rw [show a+1+b=(a+b)+1 by omega];by_cases h:s.done=true
  ·rw [RS.run_done h,RS.run_done h,RS.run_done h]
  ·show (if s.done=true then s else RS.run m (a+b) (s.one m))=RS.run m b (if s.done=true then s else RS.run m a (s.one m));rw [if_neg h,if_neg h];exact Bl m a b (s.one m)
theorem one_steps (m:MZ) (s:RS):(s.one m).steps=s.steps+1:=by
 unfold RS.one
 split <;> rfl
theorem Bt (m:MZ):∀(n:Nat) (s:RS),s.steps<=(RS.run m n s).steps/\(RS.run m n s).steps<=s.steps+n/\((RS.run m n s).done=false->(RS.run m n s).steps=s.steps+n)/\(s.done=false->0<n->s.steps<(RS.run m n s).steps)
 | 0,s=>⟨Int.le_refl _,by simp [RS.run],fun _=>by simp [RS.run],fun _ h=>absurd h (by omega)⟩
 | n+1,s=>by
  by_cases h:s.done=true
  ·rw [RS.run_done h];exact ⟨Int.le_refl _,by omega,(fun d=>by rw [h] at d;cases d),(fun d=>by rw [h] at d;cases d)⟩
  ·have e:RS.run m (n+1) s=RS.run m n (s.one m):=by
    show (if s.done=true then s else RS.run m n (s.one m))=_;rw [if_neg h]
   rw [e];obtain ⟨h1,d,o,D⟩:=Bt m n (s.one m);rw [one_steps] at h1 d o;exact ⟨by omega,by omega,fun h=>by have:=o h;omega,fun _ _=>by omega⟩
theorem Ch (m:MZ) (n:Nat):0<=(zC m n).steps/\(zC m n).steps<=n/\((zC m n).done=false->(zC m n).steps=n):=by
 obtain ⟨h1,o,d,-⟩:=Bt m n (loadS m [] 0);have h0:(loadS m [] 0).steps=0:=rfl;rw [h0] at h1 o d;exact ⟨h1,by unfold zC;omega,fun h=>by have:=d h;unfold zC;omega⟩
theorem run_early (m:MZ):∀(n:Nat) (s:RS),RS.run m ((RS.run m n s).steps - s.steps).toNat s=RS.run m n s
 | 0,s=>by show RS.run m (s.steps - s.steps).toNat s=s;rw [Int.sub_self];rfl
 | n+1,s=>by
  by_cases h:s.done=true
  ·rw [RS.run_done h,RS.run_done h]
  ·have e:RS.run m (n+1) s=RS.run m n (s.one m):=by
    show (if s.done=true then s else RS.run m n (s.one m))=_;rw [if_neg h]
   rw [e];have ih:=run_early m n (s.one m);obtain ⟨h1,-⟩:=Bt m n (s.one m);rw [one_steps] at ih h1;obtain ⟨k,d⟩:∃k:Nat,(k:Int)=(RS.run m n (s.one m)).steps - (s.steps+1):=⟨((RS.run m n (s.one m)).steps - (s.steps+1)).toNat,by omega⟩;rw [show ((RS.run m n (s.one m)).steps - s.steps).toNat=k+1 by omega];rw [show ((RS.run m n (s.one m)).steps - (s.steps+1)).toNat=k by omega] at ih;show (if s.done=true then s else RS.run m k (s.one m))=_;rw [if_neg h];exact ih
theorem atS_early (m:MZ) (n:Nat):zC m (zC m n).steps.toNat=zC m n:=by
 have h:=run_early m n (loadS m [] 0);have h0:(loadS m [] 0).steps=0:=rfl;rw [h0,Int.sub_zero] at h;exact h
theorem atS_inv (m:MZ) (n:Nat):RInv m (zC m n):=rinv_load.run n
theorem wIs_len2:∀{l:List Int},(∀x∈l,BO x)->(wL l).length<=22*l.length+2:=fun h=>by
 have:=wIs_len h;unfold wL;simp at this⊢;omega
theorem atS_ok (g:Al m) (M:n<=1000000):RecOk (zC m n).ch (zC m n).steps/\(AO (zC m n).ch (zC m n).steps).length<=10000:=by
 have o:=(atS_inv m n).ch;have K:=o.len300 g;have G:=(o.range g).1;obtain ⟨h1,J,-⟩:=Ch m n;have E:m.n<=300:=g.1.n1;have hI:∀x∈(zC m n).ch,BO x:=fun x I=>by have:=G x I;exact ⟨by omega,by omega⟩
 have d:BO (zC m n).steps:=⟨by omega,by omega⟩;have b1:=wIs_len2 hI;have b2:=wI_len d
 have D:(AO (zC m n).ch (zC m n).steps).length<=10000:=by
  unfold AO;rw [Da];omega
 exact ⟨⟨hI,d,by omega⟩,D⟩
noncomputable def recS (m:MZ) (n:Nat) (x:JS):JS:=⟨(zC m n).ch,(zC m n).steps,x.fin+(zL x.sg (zC m n).ch (zC m n).steps).length,zB x.sg (zC m n).ch (zC m n).steps⟩
noncomputable def wrt (m:MZ):List Nat->JS->List UInt8
 | [],_=>[]
 | n :: ns,x=>zL x.sg (zC m n).ch (zC m n).steps++wrt m ns (recS m n x)
noncomputable def wrtS (m:MZ):List Nat->JS->JS
 | [],x=>x
 | n :: ns,x=>wrtS m ns (recS m n x)
def Ups (m:MZ):List Nat->Int->Prop
 | [],_=>True
 | n :: ns,k=>k<n/\n<=1000000/\(zC m n).steps=n/\Ups m ns n
theorem rec_next (g:Al m) {x:JS} (d:n<=1000000) (o:x.steps<n) (D:(zC m n).steps=n) (hp:zL x.sg (zC m n).ch (zC m n).steps <+: s.drop x.fin):zR m s x=some (recS m n x):=
 nextJ_rec (atS_ok g d).1 hp (by omega) ((atS_inv m n).loadE (good_chk g))
theorem read_wrt {m:MZ} (g:Al m):∀(ns:List Nat) (x:JS) (pre tail:List UInt8),Ups m ns x.steps->pre.length=x.fin->endJ m (pre++(wrt m ns x++tail)) x=endJ m (pre++(wrt m ns x++tail)) (wrtS m ns x)/\(wrtS m ns x).fin=x.fin+(wrt m ns x).length
 | [],x,pre,tail,_,_=>⟨rfl,rfl⟩
 | n :: ns,x,pre,tail,h,o=>by
  obtain ⟨h1,D,d,E⟩:=h
  have G:(pre++(wrt m (n :: ns) x++tail)).drop x.fin=zL x.sg (zC m n).ch (zC m n).steps++(wrt m ns (recS m n x)++tail):=by
   rw [<-o,List.drop_left];show (zL x.sg (zC m n).ch (zC m n).steps++wrt m ns (recS m n x))++tail=_;rw [List.append_assoc]
  have I:=rec_next g (s:=pre++(wrt m (n :: ns) x++tail)) D h1 d (by rw [G];exact List.prefix_append ..);rw [endJ_some I];obtain ⟨i1,i2⟩:=read_wrt g ns (recS m n x) (pre++zL x.sg (zC m n).ch (zC m n).steps) tail (by show Ups m ns (zC m n).steps;rw [d];exact E) (by rw [Da,o];rfl)
  have e:pre++(wrt m (n :: ns) x++tail)=pre++zL x.sg (zC m n).ch (zC m n).steps++(wrt m ns (recS m n x)++tail):=by
   show pre++((zL x.sg (zC m n).ch (zC m n).steps++wrt m ns (recS m n x))++tail)=_;simp only [List.append_assoc]
  rw [e];refine ⟨i1,?_⟩;show (wrtS m ns (recS m n x)).fin=x.fin+(zL x.sg (zC m n).ch (zC m n).steps++wrt m ns (recS m n x)).length;rw [i2,Da];show x.fin+(zL x.sg (zC m n).ch (zC m n).steps).length+_=_;omega
theorem take_prefix {a b:List UInt8} (h:t <+: a++b) (o:a.length<=t.length):∃u,t=a++u/\u <+: b:=by
 obtain ⟨r,d⟩:=h;have h1:a <+: t:=List.prefix_of_prefix_length_le (List.prefix_append a b) ⟨r,d⟩ o;obtain ⟨u,rfl⟩:=h1;refine ⟨u,rfl,r,?_⟩;rw [List.append_assoc] at d;exact List.append_cancel_left d
theorem atS_done (h:(zC m n).done=true) (o:n<=k):zC m k=zC m n:=by
 obtain ⟨d,rfl⟩:∃d,k=n+d:=⟨k - n,by omega⟩;unfold zC at h⊢;rw [Bl,RS.run_done h]
structure AtN (m:MZ) (x:JS) (n:Nat):Prop where
 ch:x.ch=(zC m n).ch
 st:x.steps=n
 own:(zC m n).steps=n
theorem atN_zero (m:MZ) (k:Nat) (id:List UInt8):AtN m ⟨[],0,k,id⟩ 0:=⟨rfl,rfl,rfl⟩
theorem atN_rec {x:JS} (h:(zC m n).steps=n):AtN m (recS m n x) n:=⟨rfl,h,h⟩
theorem wrt_append (m:MZ):∀(a b:List Nat) (x:JS),wrt m (a++b) x=wrt m a x++wrt m b (wrtS m a x)/\wrtS m (a++b) x=wrtS m b (wrtS m a x)
 | [],b,x=>⟨rfl,rfl⟩
 | n :: a,b,x=>by
  obtain ⟨h1,d⟩:=wrt_append m a b (recS m n x);refine ⟨?_,d⟩;show zL x.sg (zC m n).ch (zC m n).steps++wrt m (a++b) (recS m n x)=(zL x.sg (zC m n).ch (zC m n).steps++wrt m a (recS m n x))++wrt m b (wrtS m a (recS m n x));rw [h1,List.append_assoc]
theorem ups_append {m:MZ}:∀(a b:List Nat) (x:JS),Ups m a x.steps->Ups m b (wrtS m a x).steps->Ups m (a++b) x.steps
 | [],b,x,_,h=>h
 | n :: a,b,x,⟨h1,o,d,D⟩,h=>by
  refine ⟨h1,o,d,?_⟩;have:=ups_append a b (recS m n x) (by show Ups m a (zC m n).steps;rw [d];exact D) h;have e:(recS m n x).steps=n:=d;rw [e] at this;exact this
noncomputable def runN (m:MZ) (lim:Nat):Nat->Nat->List Nat
 | 0,_=>[]
 | f+1,n=>if (zC m n).done=true\/lim<=n then [] else (zC m (n+min (16 - n % 16) (lim - n))).steps.toNat :: runN m lim f (zC m (n+min (16 - n % 16) (lim - n))).steps.toNat
theorem next_steps (h:(zC m n).steps=n) (o:(zC m n).done=false) (D:0<k):n<(zC m (n+k)).steps.toNat/\(zC m (n+k)).steps.toNat<=n+k/\(zC m (zC m (n+k)).steps.toNat).steps=((zC m (n+k)).steps.toNat:Nat)/\zC m (zC m (n+k)).steps.toNat=zC m (n+k):=by
 obtain ⟨a1,a2,-⟩:=Ch m (n+k);have e:=atS_early m (n+k);have d:=(Bt m k (zC m n)).2.2.2 o D;have e2:RS.run m k (zC m n)=zC m (n+k):=(Bl m n k _).symm;rw [e2,h] at d;exact ⟨by omega,by omega,by rw [e];omega,e⟩
theorem run_wrt {m:MZ} {lim:Nat} (d:lim<=1000000):∀(f n:Nat) (x:JS),AtN m x n->n<=lim->lim<=n+f->Ups m (runN m lim f n) x.steps/\∃e,AtN m (wrtS m (runN m lim f n) x) e/\zC m e=zC m lim/\n<=e
 | 0,n,x,h,h1,D=>by
  obtain rfl:n=lim:=by omega
  exact ⟨trivial,n,h,rfl,CS _⟩
 | f+1,n,x,h,h1,D=>by
  unfold runN;by_cases hc:(zC m n).done=true\/lim<=n
  ·rw [if_pos hc];refine ⟨trivial,n,h,?_,CS _⟩;rcases hc with hc | hc
   ·exact (atS_done hc h1).symm
   ·obtain rfl:n=lim:=by omega
    rfl
  ·rw [if_neg hc]
   have E:(zC m n).done=false:=by
    cases J:(zC m n).done with
    | false=>rfl
    | true=>exact absurd (.inl J) hc
   have K:n<lim:=by
    rcases Do n lim with q | q
    ·exact q
    ·exact absurd (.inr q) hc
   have G:0<min (16 - n % 16) (lim - n):=by have:=Nat.mod_lt n (show 0<16 by omega);omega
   obtain ⟨b1,b2,b3,b4⟩:=next_steps h.own E G;generalize I:(zC m (n+min (16 - n % 16) (lim - n))).steps.toNat=n' at b1 b2 b3 b4⊢;obtain ⟨i1,e,i2,i3,i4⟩:=run_wrt d f n' (recS m n' x) (atN_rec b3) (by omega) (by omega);have o:=h.st;refine ⟨⟨by rw [o];omega,by omega,b3,?_⟩,e,i2,i3,by omega⟩;have e5:(recS m n' x).steps=n':=b3;rw [e5] at i1;exact i1
theorem torn_run {h id:List UInt8} {ns:List Nat} {e lim f:Nat} (d:lim<=1000000) (D:Ups m ns 0) (he:AtN m (wrtS m ns ⟨[],0,h.length,id⟩) e) (h1:e<=lim) (o:lim<=e+f):
  h++wrt m ns ⟨[],0,h.length,id⟩++wrt m (runN m lim f e) (wrtS m ns ⟨[],0,h.length,id⟩)=h++wrt m (ns++runN m lim f e) ⟨[],0,h.length,id⟩/\Ups m (ns++runN m lim f e) 0/\
   ∃e',AtN m (wrtS m (ns++runN m lim f e) ⟨[],0,h.length,id⟩) e'/\zC m e'=zC m lim/\e<=e':=by
 obtain ⟨a1,a2⟩:=wrt_append m ns (runN m lim f e) ⟨[],0,h.length,id⟩;obtain ⟨b1,e',b2,b3,b4⟩:=run_wrt d f e _ he h1 o;exact ⟨by rw [a1,List.append_assoc],ups_append ns _ ⟨[],0,h.length,id⟩ D b1,e',by rw [a2];exact b2,b3,b4⟩
end
end Go.Proofs.YtfjjdmpndmbfoaaGreatDoor
