import Derived.Test.YtjomnbdjajjgfaaGreatDoorWIp
import Derived.ProofKit
import Derived.OpenShut
import Derived.Lib.Strings
import Derived.Lib.Walk
import Derived.Lib.BufferWrite
import Derived.Lib.UnsafeStr
import Derived.Lib.Hide
import Derived.Laws.MakeOwn
import Derived.Laws.IdiomStrings
import Derived.WalkKit
import Derived.ShutString
import Derived.WalkLawsBesides
import Derived.WalkSpells
set_option linter.unusedVariables false
set_option linter.unusedSimpArgs false
set_option maxRecDepth 100000
set_option maxHeartbeats 16000000
namespace Go.Proofs.YtjomnbdjajjgfaaGreatDoor
variable {a:Addr} {b lim st steps:Int} {ch:List Int} {h id s sg t:List UInt8} {m:MZ} {B K f k n:Nat} {r:RS} {v:Value}
section
open Go.ChangeShapes Go.WideShapes Go.ChangeAt Go.RowKit
theorem spot_none {w:World} (h:w.cell? a=some v):a.spot=none:=by
 unfold World.cell? at h
 split at h
 ·split at h
  ·cases h
  ·rename_i h1
   cases d:a.spot
   ·rfl
   ·rw [d] at h1;simp at h1
 ·cases h
theorem addr_at (h:a.spot=none) (n:Nat):a.add n=⟨a.block,a.off+n,none⟩:=by
 obtain ⟨b,o,s⟩:=a;simp only at h;subst h;unfold Addr.add
 split
 ·rename_i h0;subst h0;rfl
 ·rfl
theorem chooseList {β:Type} {p:Nat->β->Prop}:∀(n:Nat),(∀i,i<n->∃b,p i b)->∃l:List β,l.length=n/\∀i b,l[i]?=some b->p i b
 | 0,_=>⟨[],rfl,fun i b h=>by simp at h⟩
 | n+1,h=>by
  obtain ⟨l,D,h1⟩:=chooseList n (fun i hi=>h i (by omega));obtain ⟨b,E⟩:=h n (by omega);refine ⟨l++[b],by simp [D],fun i x d=>?_⟩;rcases Ev i l.length with hi | hi
  ·rw [Ed hi] at d;exact h1 i x d
  ·have o:i=l.length:=by
    rcases Ev i (l++[b]).length with h2 | h2
    ·simp at h2;omega
    ·rw [Es h2] at d;cases d
   subst o;rw [Ee (DY _),Nat.sub_self] at d;have:b=x:=by simpa using d
   subst this;rw [D];exact E
section
variable {H:Type} {enc:TypeId×Value->H} {w:World} {base:Nat} {held:Bool} {fuel:Nat} {cs:List Value} {x:DataW H×List MemPlace}
theorem sliceOpen {t e:TypeId} {sz:Nat} (ht:Tryz.prog.underlying t=some (.slice e)) (O:Tryz.prog.cellsOf e=sz) (h0:0<sz) (h:DataW.trod enc Tryz.prog w base (fun _=>true) held fuel t cs=some x):
  ∃A len c,cs=[.slice A len c]/\len<=c/\len<=9223372036854775807/\(0<len->∃b off,A=some ⟨b,off,none⟩/\∀i,i<len->∃(cl:List Value) (n:Nat) (y:DataW H×List MemPlace),cl.length=sz/\(∀j,j<sz->w.cell? ⟨b,off+(i*sz+j),none⟩=cl[j]?)/\DataW.trod enc Tryz.prog w base (fun _=>true) held n e cl=some y):=by
 rcases DataW.trod_slice ht h with ⟨rfl,_⟩ | ⟨a,len,cap,elems,rest,n,_,rfl,_,hb,hl,hm,U,I,_,_⟩
 ·exact ⟨none,0,0,rfl,DY _,by decide,fun h=>by omega⟩
 ·refine ⟨some a,len,cap,rfl,hl,by unfold maxLen at hm;omega,fun D=>?_⟩
  have each:∀i,i<len->∃(cl:List Value) (y:DataW H×List MemPlace),w.cells? base (a.add (i*sz)) sz=some cl/\DataW.trod enc Tryz.prog w base (fun _=>true) held n e cl=some y:=fun i J=>by
   have h1:=I i J;rw [O,DW (by omega)] at h1;obtain ⟨cl,h2,h3⟩:=Option.bind_eq_some_iff.1 h1;exact ⟨cl,_,h2,h3⟩
  have M:a.spot=none:=by
   obtain ⟨cl,y,h2,_⟩:=each 0 D;obtain ⟨_,Q,E⟩:=World.cells?_some h2;have d:=E 0 h0;rw [DW (by omega)] at d;have G:=spot_none d;rw [Nat.zero_mul] at G;unfold Addr.add at G
   rwa [if_pos rfl,if_pos rfl] at G
  refine ⟨a.block,a.off,?_,fun i J=>?_⟩
  ·obtain ⟨b,o,s⟩:=a;simp only at M;subst M;rfl
  ·obtain ⟨cl,y,h2,h3⟩:=each i J;obtain ⟨_,Q,E⟩:=World.cells?_some h2;refine ⟨cl,n,y,Q,fun j V=>?_,h3⟩;have d:=E j V;rw [addr_at M,addr_at rfl] at d;rw [<-Nat.add_assoc];exact d
theorem eachOpen {α:Type} {R:Value->α->Prop} {t e:TypeId} (ht:Tryz.prog.underlying t=some (.slice e)) (O:Tryz.prog.cellsOf e=1)
  (U:∀n cl y,DataW.trod enc Tryz.prog w base (fun _=>true) held n e cl=some y->∃v a,cl=[v]/\R v a) (h:DataW.trod enc Tryz.prog w base (fun _=>true) held fuel t cs=some x):
  ∃v l,cs=[v]/\Each R w (fun _=>True) v l/\l.length<=9223372036854775807/\∀a∈l,∃u,R u a:=by
 obtain ⟨A,len,c,rfl,o,M,d⟩:=sliceOpen ht O (by omega) h;rcases EJ len with rfl | hpos
 ·exact ⟨_,[],rfl,⟨[],⟨A,c,rfl,o,AT.nil _ _ _ _⟩,fun i y D=>by simp at D⟩,by simp,fun a E=>by cases E⟩
 ·obtain ⟨b,off,rfl,G⟩:=d hpos;clear d
  obtain ⟨l,J,hp⟩:=chooseList (β:=Value×α) (p:=fun i va=>w.cell? ⟨b,off+i,none⟩=some va.1/\R va.1 va.2) len (fun i I=>by
   obtain ⟨cl,n,y,h1,h2,h3⟩:=G i I;obtain ⟨v,a,rfl,V⟩:=U n cl y h3;have:=h2 0 (by omega);rw [Nat.mul_one,Nat.add_zero] at this;exact ⟨(v,a),this,V⟩)
  refine ⟨_,l.map (·.2),rfl,⟨l.map (·.1),⟨_,c,by rw [EI,J],by rw [EI,J];exact o,by simp,fun _=>⟨b,off,rfl,trivial,fun j u Q=>?_⟩⟩,fun i y D=>?_⟩,by rw [EI,J];exact M,fun a E=>?_⟩
  ·rw [EH] at Q;obtain ⟨va,h1,rfl⟩:=Option.map_eq_some_iff.1 Q;exact (hp j va h1).1
  ·rw [EH] at D;obtain ⟨va,h1,rfl⟩:=Option.map_eq_some_iff.1 D;exact ⟨va.1,by rw [EH,h1];rfl,(hp i va h1).2⟩
  ·obtain ⟨va,h1,rfl⟩:=List.mem_map.1 E;obtain ⟨i,I,rfl⟩:=EE h1;exact ⟨_,(hp i _ (DW I)).2⟩
theorem row_of_each {α:Type} {f:α->Value} {l:List α} (h:Each (fun u a=>u=f a) w (fun _=>True) v l):Bv w (fun _=>True) 1 v l.length (l.map f):=by
 obtain ⟨vs,o,he⟩:=h
 have:vs=l.map f:=by
  have d:=o;obtain ⟨A,c,_,_,hA⟩:=d;have E:vs.length=l.length:=by have:=hA.1;omega
  refine List.ext_getElem? fun i=>?_
  rcases Ev i l.length with hi | hi
  ·obtain ⟨u,D,o⟩:=he i _ (DW hi);rw [D,EH,DW hi,o];rfl
  ·rw [Es (by omega),Es (by simp;omega)]
 rw [<-this];exact o
theorem intsOpen (h:DataW.trod enc Tryz.prog w base (fun _=>true) held fuel 23 cs=some x):∃v l,cs=[v]/\zk w (fun _=>True) v l/\l.length<=9223372036854775807:=by
 obtain ⟨v,l,rfl,he,d,_⟩:=eachOpen (R:=fun u a=>u=Value.int .i64 a) Tryz.underlying23 (by kernel_rfl) (fun n cl y o=>by
  obtain ⟨k,rfl,_,_⟩:=DataW.trod_int Tryz.underlying3 o;exact ⟨_,k,rfl,rfl⟩) h
 exact ⟨v,l,rfl,row_of_each he,d⟩
theorem intssOpen (h:DataW.trod enc Tryz.prog w base (fun _=>true) held fuel 22 cs=some x):∃v l,cs=[v]/\Aa w (fun _=>True) v l/\l.length<=9223372036854775807/\∀a∈l,a.length<=9223372036854775807:=by
 obtain ⟨v,l,rfl,he,G,o⟩:=eachOpen (R:=fun u a=>zk w (fun _=>True) u a/\a.length<=9223372036854775807) Tryz.underlying22 (by kernel_rfl) (fun n cl y D=>by
  obtain ⟨v,l,rfl,h1,h2⟩:=intsOpen D;exact ⟨v,l,rfl,h1,h2⟩) h
 obtain ⟨vs,I,d⟩:=he
 exact ⟨v,l,rfl,⟨vs,I,fun i y D=>by
  obtain ⟨u,h1,h2,_⟩:=d i y D;exact ⟨u,h1,h2⟩⟩,G,fun a E=>by obtain ⟨u,h⟩:=o a E;exact h.2⟩
theorem agg_of {l:List Value} (h:v.cells.toList=l) (h2:∃cs,v=.agg cs):v=.agg l.toArray:=by
 obtain ⟨cs,rfl⟩:=h2;subst h;rfl
end
end
section
open Go.RowKit
def nuB (b:UInt8):Prop:=b.toNat=45\/(48<=b.toNat/\b.toNat<=57)
theorem mem_dec (u:Nat):∀b∈Lib.decDigits u,nuB b:=by
 induction u using Nat.strongRecOn with
 | ind u ih=>
  intro b hb;by_cases d:u<10
  ·rw [Cn d] at hb;rw [EF.1 hb];have:=Df d;exact .inr ⟨by omega,by omega⟩
  ·rw [dec_big d] at hb;rcases EN.1 hb with hb | hb
   ·exact ih (u / 10) (by omega) b hb
   ·rw [EF.1 hb];have:=Df (Nat.mod_lt u (show 0<10 by decide));exact .inr ⟨by omega,by omega⟩
theorem mem_itoa (n:Int):∀b∈Lib.itoa n,nuB b:=by
 intro b hb;by_cases h:n<0
 ·rw [Da h] at hb;rcases EM.1 hb with rfl | hb
  ·exact .inl rfl
  ·exact mem_dec _ b hb
 ·rw [BK (by omega)] at hb;exact mem_dec _ b hb
theorem itoa_ne (n:Int):Lib.itoa n≠[]:=by
 by_cases h:n<0
 ·rw [Da h];simp
 ·obtain ⟨k,-,l,d⟩:=dec_head n.toNat;rw [BK (by omega),d];simp
theorem wI_head (n:Int) (rest:List UInt8):∃b t,wI n++rest=b :: t/\nuB b:=by
 cases h:Lib.itoa n with
 | nil=>exact absurd h (itoa_ne n)
 | cons b t=>exact ⟨b,t++[59]++rest,by simp [wI,h],mem_itoa n b (by rw [h];exact EK ..)⟩
theorem cutAt_app {c:UInt8}:∀{a:List UInt8} (rest:List UInt8),c∉a->BG c (a++c :: rest)=some (a,rest)
 | [],rest,_=>by simp [BG]
 | x :: a,rest,h=>by
  have d:(x==c)=false:=by
   rw [El];exact fun e=>h (by rw [e];exact EK ..)
  simp only [List.cons_append,BG,d];rw [cutAt_app rest (fun hm=>h (Et _ hm))];rfl
theorem numP_itoa {c:UInt8} {n:Int} (h:BI n) (d:¬ nuB c) (rest:List UInt8):numP c (Lib.itoa n++c :: rest)=some (n,rest):=by
 rw [numP_ref,cutAt_app rest (fun hm=>d (mem_itoa n c hm)),Option.bind_some];simp only;rw [refNum_of h];rfl
theorem intF_wI {n:Int} (h:BI n) (rest:List UInt8):AS (wI n++rest,false)=(n,(rest,false)):=by
 have e:wI n++rest=Lib.itoa n++59 :: rest:=by simp [wI]
 have d:=numP_itoa (c:=59) h (by unfold nuB;decide) rest;unfold AS Bm;simp only [e,d];rfl
theorem elsF_wI:∀(l:List Int) (rest:List UInt8) (acc:List Int) (f:Nat),(∀x∈l,BI x)->(l.flatMap wI++93 :: rest).length<=f+1->AJ f (l.flatMap wI++93 :: rest,false) acc=(acc++l,(93 :: rest,false))
 | [],rest,acc,0,_,_=>by simp [AJ]
 | [],rest,acc,f+1,_,_=>by
  unfold AJ;rw [if_pos (.inr rfl)];simp
 | x :: l,rest,acc,f,o,hf=>by
  obtain ⟨b,t,d,E⟩:=wI_head x (l.flatMap wI++93 :: rest);have e:(x :: l).flatMap wI++93 :: rest=wI x++(l.flatMap wI++93 :: rest):=by simp
  have D:2<=(wI x).length:=by
   cases h:Lib.itoa x with
   | nil=>exact absurd h (itoa_ne x)
   | cons b t=>simp [wI,h]
  rw [e] at hf⊢;rw [Eg] at hf;obtain ⟨f,rfl⟩:∃f',f=f'+1:=⟨f - 1,by simp at hf;omega⟩;unfold AJ
  rw [if_neg (by
   rintro (h | h)
   ·unfold zU at h;rw [d] at h;simp at h
   ·rw [d] at h;simp only [List.head?_cons,Option.some.injEq] at h;subst h
    revert E
    unfold nuB;decide),intF_wI (o x (EK ..))]
  simp only;rw [elsF_wI l rest (acc++[x]) f (fun y G=>o y (Et _ G)) (by omega)];simp
theorem intsF_wL {l:List Int} (h:∀x∈l,BI x) (rest:List UInt8):zZ (wL l++rest,false)=(l,(rest,false)):=by
 have e:wL l++rest=91 :: (l.flatMap wI++93 :: rest):=by simp [wL]
 unfold zZ;rw [e]
 rw [if_neg (by
  rintro (h | h)
  ·simp [zU] at h
  ·simp at h)]
 simp only [List.tail_cons];rw [elsF_wI l rest [] _ h (Nat.le_succ _)];unfold intsE;rw [if_neg (by simp [zU])];simp
end
section
open Go.RowKit
attribute [local go_sem ↓] Go.wp_at_zero Go.wp_at_succ
def dgSX (x:Nat) (c:UInt8):Nat:=(48271*x+c.toNat+1) % 2147483647
def dgSY (y:Nat) (c:UInt8):Nat:=(40692*y+c.toNat+1) % 2147483629
def dgRX (x:Nat) (l:List UInt8):Nat:=l.foldl dgSX x
def dgRY (y:Nat) (l:List UInt8):Nat:=l.foldl dgSY y
def four (n:Nat):List UInt8:=[UInt8.ofNat (n / 16777216),UInt8.ofNat (n / 65536),UInt8.ofNat (n / 256),UInt8.ofNat n]
def BT (l:List UInt8):List UInt8:=four (dgRX 20 l)++four (dgRY 26 l)
def lenb (l:List UInt8):List UInt8:=four l.length
def Cm (a b:List UInt8):List UInt8:=BT (1 :: (lenb a++(a++b)))
theorem dgSX_lt (x:Nat) (c:UInt8):dgSX x c<2147483647:=Nat.mod_lt _ (by decide)
theorem dgSY_lt (x:Nat) (c:UInt8):dgSY x c<2147483629:=Nat.mod_lt _ (by decide)
theorem dgRX_lt:∀(l:List UInt8) (x:Nat),x<2147483647->dgRX x l<2147483647
 | [],_,h=>h
 | c :: l,x,_=>dgRX_lt l (dgSX x c) (dgSX_lt x c)
theorem dgRY_lt:∀(l:List UInt8) (x:Nat),x<2147483629->dgRY x l<2147483629
 | [],_,h=>h
 | c :: l,x,_=>dgRY_lt l (dgSY x c) (dgSY_lt x c)
theorem DH (x:Nat) (a b:List UInt8):dgRX x (a++b)=dgRX (dgRX x a) b:=by simp [dgRX]
theorem DI (x:Nat) (a b:List UInt8):dgRY x (a++b)=dgRY (dgRY x a) b:=by simp [dgRY]
theorem AN (l:List UInt8):(BT l).length=8:=rfl
theorem Tryz.infoU8:(Tryz.prog.info? 5).map (fun i=>(i.zero,i.size,i.bytes))=some (some (.int .u8 0),1,1):=by kernel_rfl
theorem lclone_calls (s:ByteArray) (w:World) (a4:s.size<=281474976710656):
  Calls Tryz.prog 237 #[.string s] w fun e w'=>e=.returned (.string s)/\Below w.heap.size w w':=by
 by_cases h0:s.size=0
 ·have hs:s=⟨#[]⟩:=by
   apply ByteArray.ext;exact Array.eq_empty_of_size_eq_zero h0
  subst hs
  go_enter Tryz.func237,Tryz.ntmps237
  go_wp2;go_ret;exact ⟨rfl,Below.refl _ _⟩
 ·obtain ⟨i0,hi,a2,o,a3⟩:=info_parts Tryz.infoU8;have d:(Tryz.prog.info? 5).map (·.size)=some 1:=by rw [hi];simp [o]
  have U:Tryz.prog.cellsOf 5=1:=by simp [Program.cellsOf,hi,o]
  obtain ⟨M,G⟩:=Fd (madeCells (Value.int .u8 0).cells (((s.size:Nat):Int).toNat*i0.size));have a5:M.size=s.size:=by rw [G,size_madeCells,o];simp
  have a7:∀W:World,(Instr.makeSlice 76 (.int .i64 (s.size:Int)) (.int .i64 (s.size:Int))).run Tryz.prog W=.ok (.slice (some ⟨W.heap.size,0,none⟩) s.size s.size) (W.alloc (.cells M 5)):=fun W=>by
   have h:=run_make (P:=Tryz.prog) W 76 5 i0 (.int .u8 0) Tryz.underlying76 hi a2 .i64 .i64 (s.size:Int) (s.size:Int) (by omega) (by omega) (by rw [a3];omega) (by omega);rw [<-G] at h;simpa using h
  clear G;have V:=Lib.run_copy_row_string (P:=Tryz.prog) (w.alloc (.cells M 5)) 76 9 3 5 w.heap.size 0 s.size s.size s M 5 Tryz.underlying76 d (EL w _) (DY _) (by omega);obtain ⟨Y,J⟩:=Fd ((M.toList.take 0++Lib.byteCells s.data.toList++M.toList.drop (0+s.size)).toArray);rw [<-J] at V
  have D:Y.toList=Lib.byteCells s.data.toList:=by
   rw [J,List.toList_toArray,List.take_zero,List.nil_append,List.drop_of_length_le (by rw [Array.length_toList];omega),List.append_nil]
  have a6:Y.size=s.size:=by rw [<-Array.length_toList,D,Lib.byteCells_length,<-Lib.size_eq]
  have E:((w.alloc (.cells M 5)).setRow w.heap.size Y).heap[w.heap.size]?=some (.cells Y 5 (0,0)):=setRow_heap _ _ M _ 5 (0,0) (EL w _);have a1:s.data.toList≠[]:=fun e=>h0 (by rw [Lib.size_eq,e];rfl)
  have I:=Lib.run_unsafeString_row (P:=Tryz.prog) ((w.alloc (.cells M 5)).setRow w.heap.size Y) 208 3 9 5 Tryz.underlying208 U w.heap.size Y.size (by unfold World.shape?;rw [E]) s.data.toList a1 (by rw [<-Lib.size_eq];omega) (by rw [<-Lib.size_eq];omega)
   (fun j x hx=>Lib.cells_of_row E Y.size j _ (by rw [List.take_of_length_le (by rw [Array.length_toList];exact DY _),D];simp [Lib.byteCells,hx]))
  rw [<-Lib.size_eq] at I;clear J
  go_enter Tryz.func237,Tryz.ntmps237
  go_wp2;go_ret;have O:Below w.heap.size w (w.alloc (.cells M 5)):=(Below.refl _ w).alloc (DY _) _;have Q:Below w.heap.size (w.alloc (.cells M 5)) ((w.alloc (.cells M 5)).setRow w.heap.size Y):=⟨rfl,rfl,rfl,by simp,fun k hk=>setRow_other _ _ _ _ (by omega)⟩;exact ⟨rfl,Lib.below_freeze (O.trans Q) (p:=⟨w.heap.size,0,none⟩) (DY _) _⟩
theorem sclone_calls (s:ByteArray) (w:World) (d:s.size<=281474976710656):
  Calls Tryz.prog 222 #[.string s] w fun e w'=>e=.returned (.string s)/\Below w.heap.size w w':=by
 go_enter Tryz.func222,Tryz.ntmps222
 go_wp2_with (go_at_call 237;refine (lclone_calls _ _ d).mono ?_;rintro e w' ⟨rfl,o⟩)
 go_ret;exact ⟨rfl,‹_›⟩
def dmk (l:List UInt8):ByteArray:=⟨l.toArray⟩
def strI (ns:List Int):ByteArray:=ns.foldl (fun r n=>r.push (UInt8.ofNat n.toNat)) ByteArray.empty
theorem strI_eq (ns:List Int):strI ns=dmk (ns.map fun n=>UInt8.ofNat n.toNat):=by
 have h:∀(ns:List Int) (r:ByteArray),ns.foldl (fun r n=>r.push (UInt8.ofNat n.toNat)) r=⟨r.data++(ns.map fun n=>UInt8.ofNat n.toNat).toArray⟩:=by
  intro ns
  induction ns with
  | nil=>intro r;simp
  | cons n ns ih=>intro r;simp only [List.foldl_cons];rw [ih];simp [ByteArray.push]
 unfold strI dmk;rw [h];simp [ByteArray.empty,ByteArray.emptyWithCapacity];rfl
theorem dconv_raw (w:World) (b:Nat) (ns:List Int) (t:TypeId) (fz:Nat×Nat) (c:Nat) (hh:w.heap[b]?=some (.cells (ns.map (Value.int .u8)).toArray t fz)):
  (convert 76 9 (.slice (some ⟨b,0,none⟩) ns.length c)).run Tryz.prog w=.ok (.string (strI ns)) w:=by
 rw [run_convert_bytes_string w 76 9 5 (some ⟨b,0,none⟩) ns.length c Tryz.underlying76 Tryz.underlying5 Tryz.underlying9]
 have d:=run_loadCells_list (P:=Tryz.prog) w ⟨b,0,none⟩ (ns.map (Value.int .u8)) (fun j v o=>by
  have:(⟨b,0,none⟩:Addr).add j=⟨b,j,none⟩:=by unfold Addr.add;split <;> simp_all
  rw [this];unfold World.cell?;simp only [hh];simpa using o)
 rw [EI] at d;exact run_bytesToString w ⟨b,0,none⟩ ns.length c ns d
theorem dconv4 (w:World) (a0 a1 a2 a3:Int):
  (convert 76 9 (.slice (some ⟨w.heap.size,0,none⟩) 4 4)).run Tryz.prog (w.alloc (.cells #[.int .u8 a0,.int .u8 a1,.int .u8 a2,.int .u8 a3] 5))=
   .ok (.string (strI [a0,a1,a2,a3])) (w.alloc (.cells #[.int .u8 a0,.int .u8 a1,.int .u8 a2,.int .u8 a3] 5)):=
 dconv_raw _ _ [a0,a1,a2,a3] 5 (0,0) 4 (EL _ _)
theorem dconv1 (w:World) (a0:Int):
  (convert 76 9 (.slice (some ⟨w.heap.size,0,none⟩) 1 1)).run Tryz.prog (w.alloc (.cells #[.int .u8 a0] 5))=
   .ok (.string (strI [a0])) (w.alloc (.cells #[.int .u8 a0] 5)):=
 dconv_raw _ _ [a0] 5 (0,0) 1 (EL _ _)
theorem dconv8 (w:World) (t:TypeId) (a0 a1 a2 a3 a4 a5 a6 a7:Int):
  (convert 76 9 (.slice (some ⟨w.heap.size,0,none⟩) 8 8)).run Tryz.prog (w.alloc (.cells #[.int .u8 a0,.int .u8 a1,.int .u8 a2,.int .u8 a3,.int .u8 a4,.int .u8 a5,.int .u8 a6,.int .u8 a7] t))=
   .ok (.string (strI [a0,a1,a2,a3,a4,a5,a6,a7])) (w.alloc (.cells #[.int .u8 a0,.int .u8 a1,.int .u8 a2,.int .u8 a3,.int .u8 a4,.int .u8 a5,.int .u8 a6,.int .u8 a7] t)):=
 dconv_raw _ _ [a0,a1,a2,a3,a4,a5,a6,a7] t (0,0) 8 (EL _ _)
theorem strI_four {a0 a1 a2 a3:Int} (n:Nat) (h0:a0=((n / 16777216 % 256:Nat):Int)) (h1:a1=((n / 65536 % 256:Nat):Int)) (h2:a2=((n / 256 % 256:Nat):Int)) (h3:a3=((n % 256:Nat):Int)):
  strI [a0,a1,a2,a3]=dmk (four n):=by
 rw [strI_eq]
 have e (k:Nat):UInt8.ofNat ((k % 256:Nat):Int).toNat=UInt8.ofNat k:=by
  rw [EO];apply UInt8.toNat_inj.1;simp
 simp only [List.map_cons,List.map_nil,h0,h1,h2,h3,e];rfl
theorem strI_size (ns:List Int):(strI ns).size=ns.length:=by
 rw [strI_eq];simp [dmk,ByteArray.size]
theorem dret_str {a b:ByteArray} (h:a=b):Ending.returned (.string a)=.returned (.string b):=by rw [h]
theorem dlen_calls (s:ByteArray) (w:World) (d:s.size<=1000000000):
  Calls Tryz.prog 209 #[.string s] w fun e w'=>e=.returned (.string (dmk (lenb s.data.toList)))/\Below w.heap.size w w':=by
 have o:=dconv4 w
 go_enter Tryz.func209,Tryz.ntmps209
 go_wp2;go_ret
 exact ⟨dret_str (by
  have e:lenb s.data.toList=four s.size:=rfl;rw [e];refine strI_four s.size ?_ ?_ ?_ ?_ <;> omega),(Below.refl _ _).alloc (DY _) _⟩
theorem dbytes4_calls (n:Nat) (w:World) (d:n<2147483648):
  Calls Tryz.prog 136 #[.int .i64 n] w fun e w'=>e=.returned (.string (dmk (four n)))/\Below w.heap.size w w':=by
 have o:=dconv4 w
 go_enter Tryz.func136,Tryz.ntmps136
 go_wp2;go_ret;exact ⟨dret_str (by refine strI_four n ?_ ?_ ?_ ?_ <;> omega),(Below.refl _ _).alloc (DY _) _⟩
def digV (l:List UInt8):Value:=.agg (l.map fun c=>Value.int .u8 (c.toNat:Int)).toArray
theorem dtext_calls (a0 a1 a2 a3 a4 a5 a6 a7:Int) (w:World):
  Calls Tryz.prog 194 #[.agg #[.int .u8 a0,.int .u8 a1,.int .u8 a2,.int .u8 a3,.int .u8 a4,.int .u8 a5,.int .u8 a6,.int .u8 a7]] w fun e w'=>e=.returned (.string (strI [a0,a1,a2,a3,a4,a5,a6,a7]))/\Below w.heap.size w w':=by
 have o:=dconv8 w 228
 go_enter Tryz.func194,Tryz.ntmps194
 go_wp2_with (go_at_call 222;refine (sclone_calls _ _ ?_).mono ?_;(rw [strI_size];simp only [Fb,Fc];omega);rintro e w' ⟨rfl,d⟩)
 go_ret;exact ⟨rfl,Below.trans ((Below.refl _ _).alloc (DY _) _) (Below.mono ‹_› (by simp))⟩
def dcat (ss:List ByteArray):List UInt8:=(ss.map (·.data.toList)).flatten
theorem dcat_snoc (ss:List ByteArray) (k:Nat) (h:k<ss.length):dcat (ss.take (k+1))=dcat (ss.take k)++ss[k].data.toList:=by
 unfold dcat;rw [Ef h,EP,List.flatten_append];simp
theorem dtake_snoc (l:List UInt8) (k:Nat) (h:k<l.length):l.take (k+1)=l.take k++[l[k]]:=by
 rw [Ef h]
theorem bytesRow_get (s:ByteArray) (c j:Nat) (d:j<s.size):(bytesRow s c)[j]?=some (.int .u8 (s.data.toList[j]'(by simpa using d)).toNat):=by
 unfold bytesRow;rw [Array.getElem?_append_left (by simpa using d)];rw [Array.getElem?_map,Array.getElem?_eq_getElem (by simpa using d)];simp
theorem digV_four (x y:Nat) (d:x<2147483647) (o:y<2147483629):digV (four x++four y)=.agg #[.int .u8 ((x:Int) / 16777216),.int .u8 ((x:Int) / 65536 % 256),.int .u8 ((x:Int) / 256 % 256),.int .u8 ((x:Int) % 256),.int .u8 ((y:Int) / 16777216),.int .u8 ((y:Int) / 65536 % 256),.int .u8 ((y:Int) / 256 % 256),.int .u8 ((y:Int) % 256)]:=by
 have e1:(x / 16777216) % 256=x / 16777216:=by omega
 have e2:(y / 16777216) % 256=y / 16777216:=by omega
 simp [digV,four,e1,e2]
theorem dbelow_row {g:Nat} {w0 w:World} (o:Below B w0 w) (d:B<=g) (cs:Array Value):Below B w0 (w.setRow g cs):=
 o.trans ⟨rfl,rfl,rfl,by simp [World.setRow],fun k D=>setRow_other w g k cs (by omega)⟩
theorem dofn_calls (w:World) (b n:Nat) (ss:List ByteArray) (hn:n=ss.length) (b4:b<w.heap.size) (d8:ss.length<=5)
  (hc:∀i (h:i<ss.length),w.cell? ⟨b,i,none⟩=some (.string ss[i])) (a4:∀i (h:i<ss.length),ss[i].size<=1000000000):
  Calls Tryz.prog 193 #[.slice (some ⟨b,0,none⟩) n n] w fun e w'=>e=.returned (digV (BT (dcat ss)))/\Below w.heap.size w w':=by
 subst hn;have H:=zh hc;clear hc;have H2:=zh a4;clear a4
 go_enter Tryz.func193,Tryz.ntmps193
 go_wp2;go_loopw [3,4,13] (fun x y i wr=>∃k:Nat,k<=ss.length/\i=.int .i64 k/\x=.int .u64 (dgRX 20 (dcat (ss.take k)))/\y=.int .u64 (dgRY 26 (dcat (ss.take k)))/\Hid (wr.heap[w.heap.size]?=some (.cells #[.int .u8 0,.int .u8 0,.int .u8 0,.int .u8 0,.int .u8 0,.int .u8 0,.int .u8 0,.int .u8 0] 228 (0,0)))/\Below w.heap.size w wr) (fun _ _ i _=>ss.length - (intOf i).toNat)
 case atStart=>exact ⟨0,Em _,rfl,rfl,rfl,EL _ _,(Below.refl _ _).alloc (DY _) _⟩
 case round=>
  obtain ⟨k,hk,rfl,rfl,rfl,hz,hb⟩:=hrel;by_cases G:k<ss.length
  ·have hx:=dcat_snoc ss k G;have Q:=(hb.cell (p:=⟨b,k,none⟩) b4).trans (H.out k G);have b6:=H2.out k G;obtain ⟨s,hs⟩:=Fd (ss[k]);rw [<-hs] at Q hx b6;have HS:=zh hs;clear hs;have HX:=zh hx;clear hx;have I:=dgRX_lt (dcat (ss.take k)) 20 (by decide);have J:=dgRY_lt (dcat (ss.take k)) 26 (by decide);obtain ⟨x0,d⟩:=Fd (dgRX 20 (dcat (ss.take k)));obtain ⟨y0,D⟩:=Fd (dgRY 26 (dcat (ss.take k)));rw [<-d] at I⊢;rw [<-D] at J⊢;have b0:=zh d;clear d;have b1:=zh D;clear D;have E:=run_bytes_of_string wr 9 76 5 s Tryz.underlying9 Tryz.underlying76 Tryz.underlying5;obtain ⟨c,a3⟩:=Fd (grownCap wr s.size 0 5);rw [<-a3] at E;clear a3;obtain ⟨C,hC⟩:=Fd (bytesRow s c);rw [<-hC] at E;have HC:=zh hC;clear hC;go_wp2
   have M:Hid (∀j (hj:j<s.size),(wr.alloc (.cells C 5 (C.size,C.size+1))).cell? ⟨wr.heap.size,j,none⟩=some (.int .u8 (s.data.toList[j]'(by simpa using hj)).toNat)):=by
    intro j hj;rw [HC.out];have hh:=EL wr (.cells (bytesRow s c) 5 ((bytesRow s c).size,(bytesRow s c).size+1));unfold World.cell?;simp only [hh];exact bytesRow_get s c j hj
   go_loop [3,4,20] (fun x y i=>∃j:Nat,j<=s.size/\i=.int .i64 j/\x=.int .u64 (dgRX x0 (s.data.toList.take j))/\y=.int .u64 (dgRY y0 (s.data.toList.take j))) (fun _ _ i=>s.size - (intOf i).toNat)
   case atStart=>exact ⟨0,Em _,rfl,rfl,rfl⟩
   case round=>
    obtain ⟨j,hj,rfl,rfl,rfl⟩:=hrel;by_cases V:j<s.size
    ·have b3:=M.out j V;have O:=dtake_snoc s.data.toList j (by simpa using V);have b8:=dgRX_lt (s.data.toList.take j) x0 I;have b9:=dgRY_lt (s.data.toList.take j) y0 J;obtain ⟨ch,U⟩:=Fd (s.data.toList[j]'(by simpa using V));rw [<-U] at b3 O;clear U;have hX:dgRX x0 (s.data.toList.take (j+1))=dgSX (dgRX x0 (s.data.toList.take j)) ch:=by rw [O,DH];rfl
     have hY:dgRY y0 (s.data.toList.take (j+1))=dgSY (dgRY y0 (s.data.toList.take j)) ch:=by rw [O,DI];rfl
     clear O;have a0:=zh hX;clear hX;have a1:=zh hY;clear hY;obtain ⟨x1,a5⟩:=Fd (dgRX x0 (s.data.toList.take j));obtain ⟨y1,a6⟩:=Fd (dgRY y0 (s.data.toList.take j));rw [<-a5] at b8 a0⊢;rw [<-a6] at b9 a1⊢;clear a5 a6;have U:=ch.toNat_lt;go_wp2
     go_round
     case rel=>exact ⟨j+1,by omega,by go_num,by rw [a0.out];unfold dgSX;congr 1,by rw [a1.out];unfold dgSY;congr 1⟩
     case measure=>simp [intOf];omega
    ·have:j=s.size:=by omega
     subst this
     have e1:dgRX x0 (s.data.toList.take s.size)=dgRX 20 (dcat (ss.take (k+1))):=by
      rw [List.take_of_length_le (by simp),HX.out,DH,<-b0.out]
     have e2:dgRY y0 (s.data.toList.take s.size)=dgRY 26 (dcat (ss.take (k+1))):=by
      rw [List.take_of_length_le (by simp),HX.out,DI,<-b1.out]
     rw [e1,e2];clear e1 e2;go_wp2;go_roundw
     case rel=>exact ⟨k+1,by omega,by go_num,rfl,rfl,(Er _ _ _ (zc hz.out)).trans hz,(hb.alloc hb.size _).drew⟩
     case measure=>simp [intOf];omega
  ·obtain rfl:k=ss.length:=by omega
   rw [Ej];have I:=dgRX_lt (dcat ss) 20 (by decide);have J:=dgRY_lt (dcat ss) 26 (by decide);obtain ⟨x0,d⟩:=Fd (dgRX 20 (dcat ss));obtain ⟨y0,D⟩:=Fd (dgRY 26 (dcat ss));have hd:BT (dcat ss)=four x0++four y0:=by rw [d,D];rfl
   rw [<-d] at I⊢;rw [<-D] at J⊢;clear d D;have HD:=zh hd;clear hd;go_wp2;refine wp_loop_rounds 5 ?_;rw [rounds_succ];go_wp2
   go_region
   go_wp2;rw [rounds_succ];go_wp2
   go_region
   go_wp2;rw [rounds_succ];go_wp2
   go_region
   go_wp2;rw [rounds_succ];go_wp2
   go_region
   go_wp2;rw [rounds_succ];have a7:∀o:Obj,(wr.alloc o).heap[w.heap.size]?=some (.cells #[.int .u8 0,.int .u8 0,.int .u8 0,.int .u8 0,.int .u8 0,.int .u8 0,.int .u8 0,.int .u8 0] 228 (0,0)):=fun o=>(Er _ _ _ (zc hz.out)).trans hz.out
   go_wp2_with (refine wpList_store_row rfl 228 (.tmp 2) (.tmp 61) rfl w.heap.size #[.int .u8 (x0 / 16777216),.int .u8 (x0 / 65536 % 256),.int .u8 (x0 / 256 % 256),.int .u8 (x0 % 256),.int .u8 (y0 / 16777216),.int .u8 (y0 / 65536 % 256),.int .u8 (y0 / 256 % 256),.int .u8 (y0 % 256)] rfl rfl 228 #[.int .u8 0,.int .u8 0,.int .u8 0,.int .u8 0,.int .u8 0,.int .u8 0,.int .u8 0,.int .u8 0] ?c1 ?c2 ?c3 ?c4 ?_)
   case c1=>exact a7 _
   case c2=>kernel_rfl
   case c3=>rfl
   case c4=>simp [Value.oneCell']
   refine ER (v:=.agg #[.int .u8 (x0 / 16777216),.int .u8 (x0 / 65536 % 256),.int .u8 (x0 / 256 % 256),.int .u8 (x0 % 256),.int .u8 (y0 / 16777216),.int .u8 (y0 / 65536 % 256),.int .u8 (y0 / 256 % 256),.int .u8 (y0 % 256)]) ?_ rfl ⟨?_,?_⟩
   ·exact results_cell_row (p:=2) (ty:=228) rfl _ _ w.heap.size 228 _ (0,0) _ rfl (setRow_heap _ _ _ _ 228 (0,0) (a7 _)) Tryz.underlying228 rfl (by kernel_rfl)
   ·rw [HD.out,digV_four x0 y0 I J]
   ·exact dbelow_row (((hb.alloc hb.size _).drew.drew.drew.drew)) (DY _) _
theorem text_dig (l:List UInt8) (h:l.length=8) (w:World):
  Calls Tryz.prog 194 #[digV l] w fun e w'=>e=.returned (.string (dmk l))/\Below w.heap.size w w':=by
 match l,h with
 | [a,b,c,d,e,f,g,i],_=>
  refine (dtext_calls a.toNat b.toNat c.toNat d.toNat e.toNat f.toNat g.toNat i.toNat w).mono ?_;rintro e w' ⟨rfl,o⟩;refine ⟨?_,o⟩;rw [strI_eq];simp
theorem CR {a w w':World} (h:Below B a w) (d:Below w.heap.size w w') (o:B<=a.heap.size):Below B a w':=h.trans (d.mono (Ea o h.size))
theorem dcells_new (w:World) (ss:List ByteArray):∀i (h:i<ss.length),(w.alloc (.cells (ss.map Value.string).toArray 9)).cell? ⟨w.heap.size,i,none⟩=some (.string ss[i]):=by
 intro i h;have hh:=EL w (.cells (ss.map Value.string).toArray 9);unfold World.cell?;simp only [hh];simp [h]
theorem dofn_list (w:World) (n:Nat) (ss:List ByteArray) (E:n=ss.length) (d:ss.length<=5) (o:∀i (h:i<ss.length),ss[i].size<=1000000000):
  Calls Tryz.prog 193 #[.slice (some ⟨w.heap.size,0,none⟩) n n] (w.alloc (.cells (ss.map Value.string).toArray 9)) fun e w'=>e=.returned (digV (BT (dcat ss)))/\Below w.heap.size w w':=by
 refine (dofn_calls _ w.heap.size n ss E (by simp) d (dcells_new w ss) o).mono ?_;rintro e w' ⟨rfl,D⟩;exact ⟨rfl,CR ((Below.refl _ w).alloc (DY _) _) D (DY _)⟩
theorem dofn1 (w:World) (s:ByteArray) (d:s.size<=1000000000):
  Calls Tryz.prog 193 #[.slice (some ⟨w.heap.size,0,none⟩) 1 1] (w.alloc (.cells #[.string s] 9)) fun e w'=>e=.returned (digV (BT s.data.toList))/\Below w.heap.size w w':=by
 have h:=dofn_list w 1 [s] rfl (by simp) (by intro i h;have:i=0:=(by simpa using h);subst this;exact d);have e:dcat [s]=s.data.toList:=by simp [dcat]
 rw [e] at h;exact h
theorem dofn4 (w:World) (s0 s1 s2 s3:ByteArray) (h0:s0.size<=1000000000) (h1:s1.size<=1000000000) (h2:s2.size<=1000000000) (h3:s3.size<=1000000000):
  Calls Tryz.prog 193 #[.slice (some ⟨w.heap.size,0,none⟩) 4 4] (w.alloc (.cells #[.string s0,.string s1,.string s2,.string s3] 9)) fun e w'=>e=.returned (digV (BT (s0.data.toList++(s1.data.toList++(s2.data.toList++s3.data.toList)))))/\Below w.heap.size w w':=by
 have h:=dofn_list w 4 [s0,s1,s2,s3] rfl (by simp) (by
  intro i h
  match i,h with
  | 0,_=>exact h0
  | 1,_=>exact h1
  | 2,_=>exact h2
  | 3,_=>exact h3)
 have e:dcat [s0,s1,s2,s3]=s0.data.toList++(s1.data.toList++(s2.data.toList++s3.data.toList)):=by simp [dcat]
 rw [e] at h;exact h
theorem dmk_size (l:List UInt8):(dmk l).size=l.length:=by simp [dmk,ByteArray.size]
theorem dmk_data (l:List UInt8):(dmk l).data.toList=l:=by simp [dmk]
theorem Of_calls (s:ByteArray) (w:World) (D:s.size<=1000000000):
  Calls Tryz.prog 141 #[.string s] w fun e w'=>e=.returned (.string (dmk (BT s.data.toList)))/\Below w.heap.size w w':=by
 go_enter Tryz.func141,Tryz.ntmps141
 go_wp2_with fail
 refine (dofn1 w s D).mono ?_;rintro e w1 ⟨rfl,d⟩
 go_wp2_with fail
 refine (text_dig _ (AN _) _).mono ?_;rintro e w2 ⟨rfl,o⟩
 go_wp2_with fail
 go_ret;exact ⟨rfl,CR d o (DY _)⟩
theorem Chain_calls (a b:ByteArray) (w:World) (E:a.size<=1000000000) (G:b.size<=1000000000):
  Calls Tryz.prog 154 #[.string a,.string b] w fun e w'=>e=.returned (.string (dmk (Cm a.data.toList b.data.toList)))/\Below w.heap.size w w':=by
 go_enter Tryz.func154,Tryz.ntmps154
 go_wp2_with fail
 refine (dlen_calls a _ E).mono ?_;rintro e w1 ⟨rfl,d⟩
 go_wp2_with fail
 refine (dofn4 w1 ⟨#[1]⟩ _ a b (by decide) (by rw [dmk_size];exact Nat.le_of_ble_eq_true rfl) E G).mono ?_;rintro e w2 ⟨rfl,o⟩;rw [dmk_data]
 go_wp2_with fail
 refine (text_dig _ (AN _) _).mono ?_;rintro e w3 ⟨rfl,D⟩
 go_wp2_with fail
 go_ret;exact ⟨rfl,CR (CR d o (DY _)) D (DY _)⟩
theorem dapp_data1 (c:UInt8) (l:List UInt8) (a b:ByteArray):((⟨#[c]⟩:ByteArray)++dmk l++a++b).data.toList=c :: (l++(a.data.toList++b.data.toList)):=by simp [dmk]
theorem dmk_app (a b:List UInt8):dmk a++dmk b=dmk (a++b):=by
 apply ByteArray.ext;simp [dmk]
theorem rOf_calls (s:ByteArray) (w:World) (hs:s.size<=4000000000):
  Calls Tryz.prog 68 #[.string s] w fun e w'=>e=.returned (.string (dmk (BT s.data.toList)))/\Below w.heap.size w w':=by
 go_enter Tryz.func68,Tryz.ntmps68
 go_wp2
 go_loop [3,4,5] (fun x y i=>∃j:Nat,j<=s.size/\i=.int .i64 j/\x=.int .i64 (dgRX 20 (s.data.toList.take j))/\y=.int .i64 (dgRY 26 (s.data.toList.take j))) (fun _ _ i=>s.size - (intOf i).toNat)
 case atStart=>exact ⟨0,Em _,rfl,rfl,rfl⟩
 case round=>
  obtain ⟨j,hj,rfl,rfl,rfl⟩:=hrel;have J:=dgRX_lt (s.data.toList.take j) 20 (by decide);have O:=dgRY_lt (s.data.toList.take j) 26 (by decide);by_cases o:j<s.size
  ·have D:=dtake_snoc s.data.toList j (by simpa using o);obtain ⟨ch,d⟩:=Fd (s[j]'o);rw [show s.data.toList[j]'(by simpa using o)=ch from d.symm] at D;have E:=zh d;clear d;have U:dgRX 20 (s.data.toList.take (j+1))=dgSX (dgRX 20 (s.data.toList.take j)) ch:=by rw [D,DH];rfl
   have V:dgRY 26 (s.data.toList.take (j+1))=dgSY (dgRY 26 (s.data.toList.take j)) ch:=by rw [D,DI];rfl
   clear D;have G:=zh U;clear U;have I:=zh V;clear V;obtain ⟨x1,M⟩:=Fd (dgRX 20 (s.data.toList.take j));obtain ⟨y1,Q⟩:=Fd (dgRY 26 (s.data.toList.take j));rw [<-M] at J G⊢;rw [<-Q] at O I⊢;clear M Q;have d:(s[j]'o).toNat<256:=by rw [<-E.out];exact ch.toNat_lt
   go_wp2
   go_round
   case rel=>exact ⟨j+1,by omega,by go_num,by rw [G.out,E.out];unfold dgSX;congr 1,by rw [I.out,E.out];unfold dgSY;congr 1⟩
   case measure=>simp [intOf];omega
  ·have:j=s.size:=by omega
   subst this;rw [List.take_of_length_le (by simp)] at J O⊢
   go_wp2_with (go_at_call 136;refine (dbytes4_calls _ _ (by omega)).mono ?_;rintro e w' ⟨rfl,hb⟩)
   go_ret;exact ⟨dret_str (by rw [dmk_app];rfl),CR ‹_› ‹_› (DY _)⟩
theorem rChain_calls (a b:ByteArray) (w:World) (G:a.size<=1000000000) (I:b.size<=1000000000):
  Calls Tryz.prog 69 #[.string a,.string b] w fun e w'=>e=.returned (.string (dmk (Cm a.data.toList b.data.toList)))/\Below w.heap.size w w':=by
 go_enter Tryz.func69,Tryz.ntmps69
 go_wp2_with fail
 refine (dbytes4_calls a.size _ (by omega)).mono ?_;rintro e w1 ⟨rfl,D⟩;have hf:(dmk (four a.size)).size<=4:=Nat.le_of_eq (by rw [dmk_size];rfl)
 go_wp2_with fail
 have o:((⟨#[1]⟩:ByteArray)++dmk (four a.size)++a++b).size<=4000000000:=by
  simp only [ByteArray.size_append,show (ByteArray.size ⟨#[1]⟩)=1 from rfl];omega
 have d:((⟨#[1]⟩:ByteArray)++dmk (four a.size)++a++b).data.toList=1 :: (lenb a.data.toList++(a.data.toList++b.data.toList)):=by
  exact dapp_data1 1 (four a.size) a b
 refine (rOf_calls _ _ o).mono ?_;rintro e w2 ⟨rfl,E⟩;rw [d];clear o d
 go_wp2_with fail
 go_ret;exact ⟨rfl,CR D E (DY _)⟩
end
section
open Go.RowKit
def Bn (s:Rd):List UInt8×Rd:=match Bm 58 s with
 | none=>([],([],true))
 | some (n,b)=>if n<0\/(b.length:Int)<n then ([],([],true)) else (b.take n.toNat,(b.drop n.toNat,false))
theorem textF_wT (rest:List UInt8) (h:t.length<=9223372036854775807):Bn (wT t++rest,false)=(t,(rest,false)):=by
 have e:wT t++rest=Lib.itoa t.length++58 :: (t++rest):=by simp [wT]
 have d:=numP_itoa (c:=58) (n:=(t.length:Int)) ⟨by omega,by omega⟩ (by unfold nuB;decide) (t++rest);unfold Bn Bm;simp only [e,d];simp;omega
structure JS where
 ch:List Int
 steps:Int
 fin:Nat
 sg:List UInt8
def Bf (ch:List Int) (steps:Int):List UInt8:=wL ch++wI steps
def zJ (sg:List UInt8) (ch:List Int) (steps:Int):List UInt8:=Cm sg (Bf ch steps)
def zS (sg:List UInt8) (ch:List Int) (steps:Int):List UInt8:=wT (Bf ch steps)++wT (zJ sg ch steps)
noncomputable def zO (m:MZ) (s:List UInt8) (x:JS):Option JS:=
 let t1:=Bn (s.drop x.fin,false)
 let t2:=Bn t1.2
 let c:=zZ (t1.1,false)
 let k:=AS c.2
 if t2.2.2=true\/k.2.2=true\/k.1<=x.steps then none
 else if ¬ zS x.sg c.1 k.1 <+: s.drop x.fin then none
 else if loadE m c.1 k.1≠0 then none
 else some ⟨c.1,k.1,x.fin+(zS x.sg c.1 k.1).length,zJ x.sg c.1 k.1⟩
noncomputable def CA (m:MZ) (s:List UInt8):Nat->JS->JS
 | 0,x=>x
 | f+1,x=>match zO m s x with
  | none=>x
  | some y=>CA m s f y
def RecOk (ch:List Int) (steps:Int):Prop:=(∀x∈ch,BI x)/\BI steps/\(Bf ch steps).length<=9223372036854775807
theorem Bb (sg:List UInt8) (ch:List Int) (steps:Int):(zJ sg ch steps).length=8:=rfl
theorem rec_read {sg ch rest} (h:RecOk ch steps):
  Bn (zS sg ch steps++rest,false)=(Bf ch steps,(wT (zJ sg ch steps)++rest,false))/\Bn (wT (zJ sg ch steps)++rest,false)=(zJ sg ch steps,(rest,false))/\
   zZ (Bf ch steps,false)=(ch,(wI steps,false))/\AS (wI steps,false)=(steps,([],false)):=by
 refine ⟨?_,textF_wT rest (by rw [Bb];omega),?_,?_⟩
 ·unfold zS;rw [List.append_assoc];exact textF_wT _ h.2.2
 ·exact intsF_wL h.1 (wI steps)
 ·have:=intF_wI h.2.1 []
  rwa [List.append_nil] at this
theorem nextJ_rec {x:JS} (h:RecOk ch steps) (hp:zS x.sg ch steps <+: s.drop x.fin) (E:x.steps<steps) (o:loadE m ch steps=0):
  zO m s x=some ⟨ch,steps,x.fin+(zS x.sg ch steps).length,zJ x.sg ch steps⟩:=by
 obtain ⟨rest,D⟩:=hp;obtain ⟨h1,h2,h3,d⟩:=rec_read (sg:=x.sg) (rest:=rest) h;unfold zO;simp only [<-D,h1,h2,h3,d];rw [if_neg (by simp;omega),if_neg (by simp),if_neg (by simp [o])]
theorem Db {x y:JS} (h:zO m s x=some y):
  ∃ch steps,x.steps<steps/\loadE m ch steps=0/\zS x.sg ch steps <+: s.drop x.fin/\(∀n∈ch,BI n)/\BI steps/\y=⟨ch,steps,x.fin+(zS x.sg ch steps).length,zJ x.sg ch steps⟩:=by
 unfold zO at h;simp only at h
 split at h
 ·cases h
 rename_i h1
 split at h
 ·cases h
 rename_i h2
 split at h
 ·cases h
 rename_i h3
 injection h with h;have h2:=Decidable.not_not.1 h2;exact ⟨_,_,by omega,by simpa using h3,h2,(intsF_lv _).2,Cp _,h.symm⟩
theorem recB_pos (sg:List UInt8) (ch:List Int) (steps:Int):0<(zS sg ch steps).length:=by
 unfold zS wT;simp;omega
theorem BD {x y:JS} (h:zO m s x=some y):x.fin<y.fin/\y.fin<=s.length:=by
 obtain ⟨ch,st,-,-,hp,-,-,rfl⟩:=Db h;have h1:=recB_pos x.sg ch st;have h2:=hp.length_le;rw [EX] at h2;exact ⟨by show x.fin<x.fin+_;omega,by show x.fin+_<=_;omega⟩
theorem lastJ_fuel {m:MZ} {s:List UInt8}:∀(f f':Nat) (x:JS),s.length<=x.fin+f->s.length<=x.fin+f'->CA m s f x=CA m s f' x
 | 0,0,x,_,_=>rfl
 | 0,f'+1,x,h,_=>by
  unfold CA
  cases d:zO m s x with
  | none=>rfl
  | some y=>have:=BD d;omega
 | f+1,0,x,_,h=>by
  conv=>rhs;unfold CA
  unfold CA
  cases d:zO m s x with
  | none=>rfl
  | some y=>have:=BD d;omega
 | f+1,f'+1,x,h,o=>by
  unfold CA
  cases d:zO m s x with
  | none=>rfl
  | some y=>have:=BD d;exact lastJ_fuel f f' y (by omega) (by omega)
noncomputable def endJ (m:MZ) (s:List UInt8) (x:JS):JS:=CA m s s.length x
theorem Co {x:JS} (h:zO m s x=none):endJ m s x=x:=by
 unfold endJ
 cases s.length with
 | zero=>rfl
 | succ n=>unfold CA;rw [h]
theorem endJ_some {x y:JS} (h:zO m s x=some y):endJ m s x=endJ m s y:=by
 obtain ⟨h1,h2⟩:=BD h;unfold endJ;obtain ⟨n,d⟩:∃n,s.length=n+1:=⟨s.length - 1,by omega⟩
 conv=>lhs;rw [d];unfold CA
 rw [h];exact lastJ_fuel n s.length y (by omega) (by omega)
theorem rec_same {ch':List Int} {st':Int} {l:List UInt8} (h:RecOk ch st) (I:RecOk ch' st') (hp:zS sg ch st <+: l) (E:zS sg ch' st' <+: l):ch=ch'/\st=st':=by
 obtain ⟨r,M⟩:=hp;obtain ⟨r',G⟩:=E;obtain ⟨h1,-,h3,J⟩:=rec_read (sg:=sg) (rest:=r) h;obtain ⟨d,-,o,D⟩:=rec_read (sg:=sg) (rest:=r') I;rw [M] at h1;rw [G,h1] at d;injection d with e1 e2;rw [<-e1,h3] at o;injection o with e3 e4;injection e4 with e4 e5;rw [<-e4,J] at D;injection D with e6 e7;exact ⟨e3,e6⟩
noncomputable def zX (m:MZ) (n:Nat):RS:=RS.run m n (loadS m [] 0)
theorem Cz (m:MZ):∀(a b:Nat) (s:RS),RS.run m (a+b) s=RS.run m b (RS.run m a s)
 | 0,b,s=>by rw [Nat.zero_add];rfl
 | a+1,b,s=>by
  rw [show a+1+b=(a+b)+1 by omega];by_cases h:s.done=true
  ·rw [RS.run_done h,RS.run_done h,RS.run_done h]
  ·show (if s.done=true then s else RS.run m (a+b) (s.one m))=RS.run m b (if s.done=true then s else RS.run m a (s.one m));rw [if_neg h,if_neg h];exact Cz m a b (s.one m)
theorem one_steps (m:MZ) (s:RS):(s.one m).steps=s.steps+1:=by
 unfold RS.one
 split <;> rfl
theorem Cq (m:MZ):∀(n:Nat) (s:RS),s.steps<=(RS.run m n s).steps/\(RS.run m n s).steps<=s.steps+n/\((RS.run m n s).done=false->(RS.run m n s).steps=s.steps+n)/\(s.done=false->0<n->s.steps<(RS.run m n s).steps)
 | 0,s=>⟨Int.le_refl _,by simp [RS.run],fun _=>by simp [RS.run],fun _ h=>absurd h (by omega)⟩
 | n+1,s=>by
  by_cases h:s.done=true
  ·rw [RS.run_done h];exact ⟨Int.le_refl _,by omega,(fun h2=>by rw [h] at h2;cases h2),(fun h2=>by rw [h] at h2;cases h2)⟩
  ·have e:RS.run m (n+1) s=RS.run m n (s.one m):=by
    show (if s.done=true then s else RS.run m n (s.one m))=_;rw [if_neg h]
   rw [e];obtain ⟨h1,h2,h3,d⟩:=Cq m n (s.one m);rw [one_steps] at h1 h2 h3;exact ⟨by omega,by omega,fun h=>by have:=h3 h;omega,fun _ _=>by omega⟩
theorem atS_steps (m:MZ) (n:Nat):0<=(zX m n).steps/\(zX m n).steps<=n/\((zX m n).done=false->(zX m n).steps=n):=by
 obtain ⟨h1,h2,h3,-⟩:=Cq m n (loadS m [] 0);have h0:(loadS m [] 0).steps=0:=rfl;rw [h0] at h1 h2 h3;exact ⟨h1,by unfold zX;omega,fun h=>by have:=h3 h;unfold zX;omega⟩
theorem run_early (m:MZ):∀(n:Nat) (s:RS),RS.run m ((RS.run m n s).steps - s.steps).toNat s=RS.run m n s
 | 0,s=>by show RS.run m (s.steps - s.steps).toNat s=s;rw [Int.sub_self];rfl
 | n+1,s=>by
  by_cases h:s.done=true
  ·rw [RS.run_done h,RS.run_done h]
  ·have e:RS.run m (n+1) s=RS.run m n (s.one m):=by
    show (if s.done=true then s else RS.run m n (s.one m))=_;rw [if_neg h]
   rw [e];have ih:=run_early m n (s.one m);obtain ⟨h1,-⟩:=Cq m n (s.one m);rw [one_steps] at ih h1;obtain ⟨k,d⟩:∃k:Nat,(k:Int)=(RS.run m n (s.one m)).steps - (s.steps+1):=⟨((RS.run m n (s.one m)).steps - (s.steps+1)).toNat,by omega⟩;rw [show ((RS.run m n (s.one m)).steps - s.steps).toNat=k+1 by omega];rw [show ((RS.run m n (s.one m)).steps - (s.steps+1)).toNat=k by omega] at ih;show (if s.done=true then s else RS.run m k (s.one m))=_;rw [if_neg h];exact ih
theorem atS_early (m:MZ) (n:Nat):zX m (zX m n).steps.toNat=zX m n:=by
 have h:=run_early m n (loadS m [] 0);have h0:(loadS m [] 0).steps=0:=rfl;rw [h0,Int.sub_zero] at h;exact h
theorem atS_inv (m:MZ) (n:Nat):RInv m (zX m n):=rinv_load.run n
theorem wIs_len2:∀{l:List Int},(∀x∈l,BI x)->(wL l).length<=22*l.length+2:=fun h=>by
 have:=wIs_len h;unfold wL;simp at this⊢;omega
theorem atS_ok (g:AG m) (M:n<=1000000):RecOk (zX m n).ch (zX m n).steps/\(Bf (zX m n).ch (zX m n).steps).length<=10000:=by
 have o:=(atS_inv m n).ch;have J:=o.len300 g;have G:=(o.range g).1;obtain ⟨h1,h2,-⟩:=atS_steps m n;have E:m.n<=300:=g.1.n1;have hI:∀x∈(zX m n).ch,BI x:=fun x I=>by have:=G x I;exact ⟨by omega,by omega⟩
 have d:BI (zX m n).steps:=⟨by omega,by omega⟩;have b1:=wIs_len2 hI;have b2:=Bl d
 have D:(Bf (zX m n).ch (zX m n).steps).length<=10000:=by
  unfold Bf;rw [Eg];omega
 exact ⟨⟨hI,d,by omega⟩,D⟩
noncomputable def recS (m:MZ) (n:Nat) (x:JS):JS:=⟨(zX m n).ch,(zX m n).steps,x.fin+(zS x.sg (zX m n).ch (zX m n).steps).length,zJ x.sg (zX m n).ch (zX m n).steps⟩
noncomputable def DU (m:MZ):List Nat->JS->List UInt8
 | [],_=>[]
 | n :: ns,x=>zS x.sg (zX m n).ch (zX m n).steps++DU m ns (recS m n x)
noncomputable def wrtS (m:MZ):List Nat->JS->JS
 | [],x=>x
 | n :: ns,x=>wrtS m ns (recS m n x)
def Ups (m:MZ):List Nat->Int->Prop
 | [],_=>True
 | n :: ns,k=>k<n/\n<=1000000/\(zX m n).steps=n/\Ups m ns n
theorem rec_next (g:AG m) {x:JS} (d:n<=1000000) (o:x.steps<n) (D:(zX m n).steps=n) (hp:zS x.sg (zX m n).ch (zX m n).steps <+: s.drop x.fin):zO m s x=some (recS m n x):=
 nextJ_rec (atS_ok g d).1 hp (by omega) ((atS_inv m n).loadE (good_chk g))
theorem read_wrt {m:MZ} (g:AG m):∀(ns:List Nat) (x:JS) (pre tail:List UInt8),Ups m ns x.steps->pre.length=x.fin->endJ m (pre++(DU m ns x++tail)) x=endJ m (pre++(DU m ns x++tail)) (wrtS m ns x)/\(wrtS m ns x).fin=x.fin+(DU m ns x).length
 | [],x,pre,tail,_,_=>⟨rfl,rfl⟩
 | n :: ns,x,pre,tail,h,d=>by
  obtain ⟨h1,h2,h3,o⟩:=h
  have D:(pre++(DU m (n :: ns) x++tail)).drop x.fin=zS x.sg (zX m n).ch (zX m n).steps++(DU m ns (recS m n x)++tail):=by
   rw [<-d,List.drop_left];show (zS x.sg (zX m n).ch (zX m n).steps++DU m ns (recS m n x))++tail=_;rw [List.append_assoc]
  have E:=rec_next g (s:=pre++(DU m (n :: ns) x++tail)) h2 h1 h3 (by rw [D];exact List.prefix_append ..);rw [endJ_some E];obtain ⟨i1,i2⟩:=read_wrt g ns (recS m n x) (pre++zS x.sg (zX m n).ch (zX m n).steps) tail (by show Ups m ns (zX m n).steps;rw [h3];exact o) (by rw [Eg,d];rfl)
  have e:pre++(DU m (n :: ns) x++tail)=pre++zS x.sg (zX m n).ch (zX m n).steps++(DU m ns (recS m n x)++tail):=by
   show pre++((zS x.sg (zX m n).ch (zX m n).steps++DU m ns (recS m n x))++tail)=_;simp only [List.append_assoc]
  rw [e];refine ⟨i1,?_⟩;show (wrtS m ns (recS m n x)).fin=x.fin+(zS x.sg (zX m n).ch (zX m n).steps++DU m ns (recS m n x)).length;rw [i2,Eg];show x.fin+(zS x.sg (zX m n).ch (zX m n).steps).length+_=_;omega
theorem take_prefix {a b:List UInt8} (h:t <+: a++b) (o:a.length<=t.length):∃u,t=a++u/\u <+: b:=by
 obtain ⟨r,d⟩:=h;have h1:a <+: t:=List.prefix_of_prefix_length_le (List.prefix_append a b) ⟨r,d⟩ o;obtain ⟨u,rfl⟩:=h1;refine ⟨u,rfl,r,?_⟩;rw [List.append_assoc] at d;exact List.append_cancel_left d
theorem atS_done (h:(zX m n).done=true) (o:n<=k):zX m k=zX m n:=by
 obtain ⟨d,rfl⟩:∃d,k=n+d:=⟨k - n,by omega⟩;unfold zX at h⊢;rw [Cz,RS.run_done h]
structure AtN (m:MZ) (x:JS) (n:Nat):Prop where
 ch:x.ch=(zX m n).ch
 st:x.steps=n
 own:(zX m n).steps=n
theorem atN_zero (m:MZ) (k:Nat) (id:List UInt8):AtN m ⟨[],0,k,id⟩ 0:=⟨rfl,rfl,rfl⟩
theorem atN_rec {x:JS} (h:(zX m n).steps=n):AtN m (recS m n x) n:=⟨rfl,h,h⟩
theorem wrt_append (m:MZ):∀(a b:List Nat) (x:JS),DU m (a++b) x=DU m a x++DU m b (wrtS m a x)/\wrtS m (a++b) x=wrtS m b (wrtS m a x)
 | [],b,x=>⟨rfl,rfl⟩
 | n :: a,b,x=>by
  obtain ⟨h1,h2⟩:=wrt_append m a b (recS m n x);refine ⟨?_,h2⟩;show zS x.sg (zX m n).ch (zX m n).steps++DU m (a++b) (recS m n x)=(zS x.sg (zX m n).ch (zX m n).steps++DU m a (recS m n x))++DU m b (wrtS m a (recS m n x));rw [h1,List.append_assoc]
theorem ups_append {m:MZ}:∀(a b:List Nat) (x:JS),Ups m a x.steps->Ups m b (wrtS m a x).steps->Ups m (a++b) x.steps
 | [],b,x,_,h=>h
 | n :: a,b,x,⟨h1,h2,h3,d⟩,h=>by
  refine ⟨h1,h2,h3,?_⟩;have:=ups_append a b (recS m n x) (by show Ups m a (zX m n).steps;rw [h3];exact d) h;have e:(recS m n x).steps=n:=h3;rw [e] at this;exact this
noncomputable def runN (m:MZ) (lim:Nat):Nat->Nat->List Nat
 | 0,_=>[]
 | f+1,n=>if (zX m n).done=true\/lim<=n then [] else (zX m (n+min (16 - n % 16) (lim - n))).steps.toNat :: runN m lim f (zX m (n+min (16 - n % 16) (lim - n))).steps.toNat
theorem next_steps (h:(zX m n).steps=n) (o:(zX m n).done=false) (D:0<k):n<(zX m (n+k)).steps.toNat/\(zX m (n+k)).steps.toNat<=n+k/\(zX m (zX m (n+k)).steps.toNat).steps=((zX m (n+k)).steps.toNat:Nat)/\zX m (zX m (n+k)).steps.toNat=zX m (n+k):=by
 obtain ⟨a1,a2,-⟩:=atS_steps m (n+k);have e:=atS_early m (n+k);have d:=(Cq m k (zX m n)).2.2.2 o D;have e2:RS.run m k (zX m n)=zX m (n+k):=(Cz m n k _).symm;rw [e2,h] at d;exact ⟨by omega,by omega,by rw [e];omega,e⟩
theorem run_wrt {m:MZ} {lim:Nat} (d:lim<=1000000):∀(f n:Nat) (x:JS),AtN m x n->n<=lim->lim<=n+f->Ups m (runN m lim f n) x.steps/\∃e,AtN m (wrtS m (runN m lim f n) x) e/\zX m e=zX m lim/\n<=e
 | 0,n,x,h,h1,h2=>by
  obtain rfl:n=lim:=by omega
  exact ⟨trivial,n,h,rfl,DY _⟩
 | f+1,n,x,h,h1,h2=>by
  unfold runN;by_cases hc:(zX m n).done=true\/lim<=n
  ·rw [if_pos hc];refine ⟨trivial,n,h,?_,DY _⟩;rcases hc with hc | hc
   ·exact (atS_done hc h1).symm
   ·obtain rfl:n=lim:=by omega
    rfl
  ·rw [if_neg hc]
   have D:(zX m n).done=false:=by
    cases I:(zX m n).done with
    | false=>rfl
    | true=>exact absurd (.inl I) hc
   have J:n<lim:=by
    rcases Ev n lim with q | q
    ·exact q
    ·exact absurd (.inr q) hc
   have E:0<min (16 - n % 16) (lim - n):=by have:=Nat.mod_lt n (show 0<16 by omega);omega
   obtain ⟨b1,b2,b3,b4⟩:=next_steps h.own D E;generalize G:(zX m (n+min (16 - n % 16) (lim - n))).steps.toNat=n' at b1 b2 b3 b4⊢;obtain ⟨i1,e,i2,i3,i4⟩:=run_wrt d f n' (recS m n' x) (atN_rec b3) (by omega) (by omega);have o:=h.st;refine ⟨⟨by rw [o];omega,by omega,b3,?_⟩,e,i2,i3,by omega⟩;have e5:(recS m n' x).steps=n':=b3;rw [e5] at i1;exact i1
theorem torn_run {ns:List Nat} {e lim:Nat} (d:lim<=1000000) (o:Ups m ns 0) (he:AtN m (wrtS m ns ⟨[],0,h.length,id⟩) e) (h1:e<=lim) (h2:lim<=e+f):
  h++DU m ns ⟨[],0,h.length,id⟩++DU m (runN m lim f e) (wrtS m ns ⟨[],0,h.length,id⟩)=h++DU m (ns++runN m lim f e) ⟨[],0,h.length,id⟩/\Ups m (ns++runN m lim f e) 0/\
   ∃e',AtN m (wrtS m (ns++runN m lim f e) ⟨[],0,h.length,id⟩) e'/\zX m e'=zX m lim/\e<=e':=by
 obtain ⟨a1,a2⟩:=wrt_append m ns (runN m lim f e) ⟨[],0,h.length,id⟩;obtain ⟨b1,e',b2,b3,b4⟩:=run_wrt d f e _ he h1 h2;exact ⟨by rw [a1,List.append_assoc],ups_append ns _ ⟨[],0,h.length,id⟩ o b1,e',by rw [a2];exact b2,b3,b4⟩
theorem CM (h:loadE m ch st=0):BM m=0/\RInv m (loadS m ch st):=by
 unfold loadE at h
 split at h
 ·rename_i h1;exact absurd h h1
 rename_i h1
 split at h
 ·cases h
 rename_i h2
 split at h
 ·rename_i h3
  rw [Ek,EY,Ei] at h3;refine ⟨Decidable.not_not.1 h1,Bo.1 h3.1,?_,rfl,fun d=>?_⟩
  ·show 0<=st;omega
  ·exact h3.2.resolve_left d
 ·cases h
noncomputable def runJ (m:MZ) (b lim:Int):Nat->RS->List UInt8->List UInt8×RS
 | 0,r,_=>([],r)
 | f+1,r,sg=>if r.done=true\/lim<=r.steps - b then ([],r) else
   let r':=RS.run m (min (16 - r.steps % 16) (lim - (r.steps - b))).toNat r
   let p:=runJ m b lim f r' (zJ sg r'.ch r'.steps)
   (zS sg r'.ch r'.steps++p.1,p.2)
theorem runJ_stop (h:r.done=true\/lim<=r.steps - b):runJ m b lim f r sg=([],r):=by
 cases f with
 | zero=>rfl
 | succ f=>unfold runJ;rw [if_pos h]
theorem runJ_go {r':RS} (h:¬ (r.done=true\/lim<=r.steps - b)) (d:RS.run m (min (16 - r.steps % 16) (lim - (r.steps - b))).toNat r=r'):
  runJ m b lim (f+1) r sg=(zS sg r'.ch r'.steps++(runJ m b lim f r' (zJ sg r'.ch r'.steps)).1,(runJ m b lim f r' (zJ sg r'.ch r'.steps)).2):=by
 subst d
 conv=>lhs;unfold runJ
 rw [if_neg h]
theorem runJ_wrt {m:MZ} {b L:Nat} (E:b<=L):∀(f n:Nat) (x:JS),AtN m x n->n<=L->L<=n+f->
  (runJ m b ((L:Int) - b) f (zX m n) x.sg).1=DU m (runN m L f n) x/\(runJ m b ((L:Int) - b) f (zX m n) x.sg).2=zX m L
 | 0,n,x,h,h1,h2=>by
  obtain rfl:n=L:=by omega
  exact ⟨rfl,rfl⟩
 | f+1,n,x,h,h1,h2=>by
  have d:=h.own;by_cases hc:(zX m n).done=true\/L<=n
  ·have o:(zX m n).done=true\/(L:Int) - b<=(zX m n).steps - b:=by rw [d];rcases hc with hc | hc;exact .inl hc;exact .inr (by omega)
   rw [runJ_stop o];unfold runN;rw [if_pos hc];refine ⟨rfl,?_⟩;rcases hc with hc | hc
   ·exact (atS_done hc h1).symm
   ·obtain rfl:n=L:=by omega
    rfl
  ·have o:¬ ((zX m n).done=true\/(L:Int) - b<=(zX m n).steps - b):=by
    rw [d];rintro (q | q)
    ·exact hc (.inl q)
    ·exact hc (.inr (by omega))
   have G:(zX m n).done=false:=by
    cases M:(zX m n).done with
    | false=>rfl
    | true=>exact absurd (.inl M) hc
   have Q:n<L:=by
    rcases Ev n L with q | q
    ·exact q
    ·exact absurd (.inr q) hc
   have I:0<min (16 - n % 16) (L - n):=by have:=Nat.mod_lt n (show 0<16 by omega);omega
   have D:(min (16 - (zX m n).steps % 16) ((L:Int) - b - ((zX m n).steps - b))).toNat=min (16 - n % 16) (L - n):=by rw [d];omega
   obtain ⟨b1,b2,b3,b4⟩:=next_steps d G I
   have O:RS.run m (min (16 - (zX m n).steps % 16) ((L:Int) - b - ((zX m n).steps - b))).toNat (zX m n)=zX m (n+min (16 - n % 16) (L - n)):=by
    rw [D];exact (Cz m n _ _).symm
   rw [runJ_go o O];unfold runN;rw [if_neg hc];generalize J:(zX m (n+min (16 - n % 16) (L - n))).steps.toNat=n' at b1 b2 b3 b4⊢;rw [<-b4];obtain ⟨i1,i2⟩:=runJ_wrt E f n' (recS m n' x) (atN_rec b3) (by omega) (by omega);refine ⟨?_,i2⟩;show zS x.sg (zX m n').ch (zX m n').steps++_=zS x.sg (zX m n').ch (zX m n').steps++DU m (runN m L f n') (recS m n' x);rw [<-i1];rfl
noncomputable def zG (m:MZ) (h id s:List UInt8):Option JS:=if h <+: s then some (endJ m s ⟨[],0,h.length,id⟩) else none
noncomputable def runF (m:MZ) (h id s:List UInt8) (n:Int):List UInt8×Bool×Int:=
 match zG m h id s with
 | none=>([],false,4)
 | some x=>if n<0 then ([],false,1) else
   let p:=runJ m x.steps (min (20000 - x.steps) n) (min (20000 - x.steps) n).toNat (loadS m x.ch x.steps) x.sg
   (s.take x.fin++p.1,p.2.done,0)
def JAt (m:MZ) (h id s:List UInt8) (K:Nat):Prop:=∃ns e,Ups m ns 0/\s=h++DU m ns ⟨[],0,h.length,id⟩/\AtN m (wrtS m ns ⟨[],0,h.length,id⟩) e/\zX m e=zX m K/\e<=K
theorem jat_begin (m:MZ) (h id:List UInt8):JAt m h id h 0:=⟨[],0,trivial,(List.append_nil h).symm,atN_zero m _ _,rfl,DY _⟩
theorem endJ_end {x:JS} (h:s.length<=x.fin):endJ m s x=x:=by
 refine Co ?_
 cases d:zO m s x with
 | none=>rfl
 | some y=>have:=BD d;omega
theorem jat_open (g:AG m) (D:JAt m h id s K):∃x e,zG m h id s=some x/\x.fin=s.length/\AtN m x e/\zX m e=zX m K/\e<=K:=by
 obtain ⟨ns,e,E,rfl,he,o,d⟩:=D;obtain ⟨h1,h2⟩:=read_wrt g ns ⟨[],0,h.length,id⟩ h [] E rfl;rw [List.append_nil] at h1;have hf:(wrtS m ns ⟨[],0,h.length,id⟩).fin=(h++DU m ns ⟨[],0,h.length,id⟩).length:=by rw [h2,Eg]
 refine ⟨_,e,?_,hf,he,o,d⟩;unfold zG;rw [if_pos (List.prefix_append ..),h1,endJ_end (by rw [hf];exact DY _)]
theorem jat_run (g:AG m) (Q:JAt m h id s K) (hn:K+n<=20000):
  ∃t,runF m h id s n=(s++t,(zX m (K+n)).done,0)/\JAt m h id (s++t) (K+n):=by
 obtain ⟨x,e0,E,hf,-,-,-⟩:=jat_open g Q;obtain ⟨ns,e,U,M,he,J,V⟩:=Q;obtain ⟨h1,h2⟩:=read_wrt g ns ⟨[],0,h.length,id⟩ h [] U rfl;rw [List.append_nil,<-M] at h1
 have o:x=wrtS m ns ⟨[],0,h.length,id⟩:=by
  unfold zG at E;rw [if_pos (by rw [M];exact List.prefix_append ..)] at E;injection E with E;rw [<-E,h1,endJ_end];rw [h2,M,Eg];exact DY _
 have d:x.steps=e:=by rw [o];exact he.st
 have O:x.ch=(zX m e).ch:=by rw [o];exact he.ch
 have G:e+n<=1000000:=by omega
 obtain ⟨c1,c2,e',c3,c4,c5⟩:=torn_run (h:=h) (id:=id) (lim:=e+n) (f:=n) G U he (by omega) (by omega)
 have hL:loadS m x.ch x.steps=zX m e:=by
  have:=(atS_inv m e).loadS;rw [he.own] at this;rw [O,d,this]
 have I:(min (20000 - x.steps) (n:Int))=((e+n:Nat):Int) - e:=by rw [d];omega
 have D:(min (20000 - x.steps) (n:Int)).toNat=n:=by rw [d];omega
 obtain ⟨d1,d2⟩:=runJ_wrt (m:=m) (b:=e) (L:=e+n) (by omega) n e x (by rw [o];exact he) (by omega) (by omega);refine ⟨DU m (runN m (e+n) n e) x,?_,ns++runN m (e+n) n e,e',c2,?_,c3,?_,?_⟩
 ·unfold runF;rw [E];simp only;rw [if_neg (by omega),D,I,hL,d,d1,d2,hf,Ej]
  have ea:zX m (e+n)=zX m (K+n):=by
   unfold zX at J⊢;rw [Cz,Cz,J]
  rw [ea]
 ·rw [<-c1,<-M,o]
 ·rw [c4];unfold zX at J⊢;rw [Cz,Cz,J]
 ·have a1:=atS_steps m (e+n);have a2:(zX m e').steps=e':=c3.own;rw [c4] at a2;omega
theorem jat_read (g:AG m) (o:JAt m h id s K):∃x,zG m h id s=some x/\x.fin=s.length/\x.ch=(zX m K).ch/\x.steps=(zX m K).steps:=by
 obtain ⟨x,e,h1,h2,h3,d,D⟩:=jat_open g o;refine ⟨x,h1,h2,by rw [h3.ch,d],?_⟩;rw [h3.st,<-d];exact h3.own.symm
theorem lastJ_mono {m:MZ} {s:List UInt8}:∀(f:Nat) (x:JS),x.fin<=(CA m s f x).fin/\x.steps<=(CA m s f x).steps
 | 0,x=>⟨DY _,Int.le_refl _⟩
 | f+1,x=>by
  unfold CA
  cases d:zO m s x with
  | none=>exact ⟨DY _,Int.le_refl _⟩
  | some y=>
   obtain ⟨h1,-⟩:=BD d
   have h2:x.steps<y.steps:=by
    obtain ⟨ch,st,h2,-,-,-,-,rfl⟩:=Db d;exact h2
   obtain ⟨h3,o⟩:=lastJ_mono (m:=m) (s:=s) f y;show x.fin<=(CA m s f y).fin/\x.steps<=(CA m s f y).steps;exact ⟨by omega,by omega⟩
theorem endJ_mono (x:JS):x.fin<=(endJ m s x).fin/\x.steps<=(endJ m s x).steps:=lastJ_mono _ x
theorem recB_two (sg:List UInt8) (ch:List Int) (steps:Int):2<=(zS sg ch steps).length:=by
 unfold zS wT;simp;omega
theorem jat_odd (g:AG m) (G:JAt m h id s K) (u:List UInt8):∃y,zG m h id (s++u)=some y/\s.length<=y.fin/\(zX m K).steps<=y.steps/\
  (u.length<=1->y.fin=s.length/\y.ch=(zX m K).ch/\y.steps=(zX m K).steps):=by
 obtain ⟨ns,e,M,rfl,he,D,I⟩:=G;obtain ⟨h1,h2⟩:=read_wrt g ns ⟨[],0,h.length,id⟩ h u M rfl;rw [<-List.append_assoc] at h1;have hf:(wrtS m ns ⟨[],0,h.length,id⟩).fin=(h++DU m ns ⟨[],0,h.length,id⟩).length:=by rw [h2,Eg]
 obtain ⟨h3,E⟩:=endJ_mono (m:=m) (s:=h++DU m ns ⟨[],0,h.length,id⟩++u) (wrtS m ns ⟨[],0,h.length,id⟩);have d:(wrtS m ns ⟨[],0,h.length,id⟩).steps=(zX m K).steps:=by rw [he.st,<-he.own,D]
 refine ⟨endJ m (h++DU m ns ⟨[],0,h.length,id⟩++u) ⟨[],0,h.length,id⟩,?_,?_,?_,fun O=>?_⟩
 ·unfold zG;rw [if_pos (by rw [List.append_assoc];exact List.prefix_append ..)]
 ·rw [h1,<-hf];exact h3
 ·rw [h1,<-d];exact E
 ·have e0:endJ m (h++DU m ns ⟨[],0,h.length,id⟩++u) (wrtS m ns ⟨[],0,h.length,id⟩)=wrtS m ns ⟨[],0,h.length,id⟩:=by
   refine Co ?_
   cases J:zO m (h++DU m ns ⟨[],0,h.length,id⟩++u) (wrtS m ns ⟨[],0,h.length,id⟩) with
   | none=>rfl
   | some y=>
    exfalso
    obtain ⟨ch,st,-,-,hp,-,-,-⟩:=Db J;have o:=hp.length_le;rw [EX,Eg (bs:=u),hf] at o;have:=recB_two (wrtS m ns ⟨[],0,h.length,id⟩).sg ch st;omega
  rw [h1,e0];exact ⟨hf,by rw [he.ch,D],d⟩
end
end Go.Proofs.YtjomnbdjajjgfaaGreatDoor
