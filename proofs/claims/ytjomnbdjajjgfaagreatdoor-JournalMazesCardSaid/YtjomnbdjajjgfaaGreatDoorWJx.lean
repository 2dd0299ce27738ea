import Derived.Test.YtjomnbdjajjgfaaGreatDoorWJv
import Derived.ProofKit
import Derived.OpenShut
import Derived.Deep.CutBlock
set_option linter.unusedVariables false
set_option linter.unusedSimpArgs false
set_option maxRecDepth 100000
set_option maxHeartbeats 16000000
namespace Go.Proofs.YtjomnbdjajjgfaaGreatDoor
variable {A Y:Int} {l:List Bool} {ns:List ByteArray} {news vs xs:List Value} {m:MZ} {cap g k n n' sz:Nat} {ok:Nat->Prop} {o:Obj} {u:Value} {w5:World}
section
open Go.RowKit
theorem eTask:ElemI 30 87 (.agg #[.string ⟨#[]⟩,.slice none 0 0,.slice none 0 0]) 3 64:=⟨Tryz.underlying30,Tryz.infoTask,rfl,by decide⟩
theorem eBools:ElemI 28 29 (.slice none 0 0) 1 24:=⟨Tryz.underlying28,Tryz.infoBools,rfl,by decide⟩
theorem eBool:ElemI 29 4 (.bool false) 1 1:=⟨Tryz.underlying29,Tryz.infoBool,rfl,by decide⟩
theorem eInt:ElemI 23 3 (.int .i64 0) 1 8:=⟨Tryz.underlying23,Tryz.infoInt,rfl,by decide⟩
theorem own_emptyT (W:World) (B:Nat) (e:TypeId) (sz:Nat) (D:B<=W.heap.size):(W.alloc (.cells #[] e)).ownsRow B e sz (.slice (some ⟨W.heap.size,0,none⟩) 0 0) 0 []:=
 ⟨by simp,.inr ⟨W.heap.size,0,#[],rfl,D,zax W _,Fy _,by decide,by simp,by simp⟩⟩
end
section
open Go.ChangeShapes Go.WideShapes Go.ChangeAt Go.RowKit
section
variable {H:Type} {enc:TypeId×Value->H} {w:World} {base:Nat} {held:Bool} {fuel:Nat} {cs:List Value} {x:DataW H×List MemPlace}
theorem intOpen (h:DataW.trod enc Tryz.prog w base (fun _=>true) held fuel 3 cs=some x):∃n,cs=[.int .i64 n]/\-9223372036854775808<=n/\n<=9223372036854775807:=by
 obtain ⟨k,rfl,_,D⟩:=DataW.trod_int Tryz.underlying3 h;refine ⟨k,rfl,?_⟩;have this:=D;simp only [Lit.wf,IntKind.has,FK,FI] at this;have e1:IntKind.i64.min=-9223372036854775808:=rfl;have e2:IntKind.i64.max=9223372036854775807:=rfl;omega
theorem cellsT3:Tryz.prog.cellsOf 3=1:=by kernel_rfl
end
section
variable {H:Type} {enc:TypeId×Value->H} {base:Nat} {v v0 v1 v2 v3 v4:Value} {d d0 d1 d2 d3 d4:DataW H} {p p0 p1 p2 p3 p4:List MemPlace} {W:World}
theorem strArg (D:Value.okWide Tryz.prog W .any base 9 v) (h:DataW.Trod enc Tryz.prog W 0 (fun _=>true) true 9 v d p):∃S:List UInt8,v=.string ⟨S.toArray⟩/\S.length<=9223372036854775807:=by
 obtain ⟨fuel,h⟩:=h;obtain ⟨S,e,h1⟩:=strOpen h
 have E:∀cs,v≠.agg cs:=by
  rintro cs rfl;unfold Value.okWide at D;rw [Tryz.underlying9] at D;simp [Cell.okWide,Cell.ok,Tryz.underlying9] at D
 have:v.cells=#[v]:=by
  cases v <;> first | rfl | exact absurd rfl (E _)
 rw [this] at e;injection e with e;exact ⟨S,e,h1⟩
theorem i8Arg (D:Value.okWide Tryz.prog W .any base 69 v) (h:DataW.Trod enc Tryz.prog W 0 (fun _=>true) true 69 v d p):∃n,v=.int .i8 n/\-128<=n/\n<128:=by
 obtain ⟨fuel,h⟩:=h;obtain ⟨k,e,_,G⟩:=DataW.trod_int Tryz.underlying69 h
 have E:∀cs,v≠.agg cs:=by
  rintro cs rfl;unfold Value.okWide at D;rw [Tryz.underlying69] at D;simp [Cell.okWide,Cell.ok,Tryz.underlying69] at D
 have:v.cells=#[v]:=by
  cases v <;> first | rfl | exact absurd rfl (E _)
 rw [this] at e;injection e with e;refine ⟨k,e,?_⟩;have this:=G;simp only [Lit.wf,IntKind.has,FK,FI] at this;have e1:IntKind.i8.min=-128:=rfl;have e2:IntKind.i8.max=127:=rfl;omega
theorem ints3ArgJ (J:Value.okWide Tryz.prog W .any base 24 v) (h:DataW.Trod enc Tryz.prog W 0 (fun _=>true) true 24 v d p):∃o0 o1 o2,v=.agg #[.int .i64 o0,.int .i64 o1,.int .i64 o2]:=by
 have E:∃cs,v=.agg cs:=by
  unfold Value.okWide at J;rw [Tryz.underlying24] at J;obtain ⟨cs,h,_⟩:=J;exact ⟨cs,h⟩
 obtain ⟨fuel,h⟩:=h;obtain ⟨xs,m,_,_,G,Q,D⟩:=DataW.trod_array Tryz.underlying24 h;have I:v.cells.toList.length=3:=by rw [G];kernel_rfl
 obtain ⟨c1,c2,c3,O⟩:∃a b c,v.cells.toList=[a,b,c]:=by
  match v.cells.toList,I with
  | [a,b,c],_=>exact ⟨a,b,c,rfl⟩
 have M:=agg_of O E;rw [O,cellsT3] at D;have a0:=D 0 (by omega);have a1:=D 1 (by omega);have a2:=D 2 (by omega);rw [Fw (by omega)] at a0 a1 a2;have a0:DataW.trod enc Tryz.prog W 0 (fun _=>true) true m 3 [c1]=_:=a0;have a1:DataW.trod enc Tryz.prog W 0 (fun _=>true) true m 3 [c2]=_:=a1;have a2:DataW.trod enc Tryz.prog W 0 (fun _=>true) true m 3 [c3]=_:=a2;obtain ⟨o0,e0,b0⟩:=intOpen a0;obtain ⟨o1,e1,b1⟩:=intOpen a1;obtain ⟨o2,e2,b2⟩:=intOpen a2;injection e0 with e0;injection e1 with e1;injection e2 with e2;subst e0 e1 e2;exact ⟨o0,o1,o2,M⟩
end
end
section
open Go.RowKit
structure OB (m:MZ) (A Y:Int) (K:Nat):Prop where
 w:-A<=m.w/\m.w<=A
 h:-Y<=m.h/\m.h<=Y
 l:-A<=m.l/\m.l<=A
 fr:m.free.length<=K
 up:m.up.length<=K
 tk:m.tasks.length<=K
 te:∀t∈m.tasks,t.1.length<=K/\t.2.length<=K
theorem OB.lens {K:Nat} (h:OB m A Y K) (D:K<=1000):Lens m:=
 ⟨by have:=h.fr;omega,by have:=h.up;omega,by have:=h.tk;omega,fun t ht=>by have:=h.te t ht;omega⟩
theorem tasks_one {w:World} {v:Value} {l:List (List Int×List Int)} (G:AS w ok 3 v n vs) (M:n=l.length) (he:∀(i:Nat) x,l[i]?=some x->∃s u1 u2,vs[i*3]?=some (.string s)/\vs[i*3+1]?=some u1/\vs[i*3+2]?=some u2/\zg w ok u1 x.1/\zg w ok u2 x.2):
  ∀u∈vs,u.oneCell'=true:=by
 intro u I;obtain ⟨j,E,rfl⟩:=zaq I;obtain ⟨A,c,_,_,J,_⟩:=G;have D:j / 3<l.length:=by omega
 obtain ⟨s,u1,u2,h0,h1,h2,i1,i2⟩:=he (j / 3) _ (Fw D);have h3:vs[j]?=some vs[j]:=Fw E;rcases (show j=j / 3*3\/j=j / 3*3+1\/j=j / 3*3+2 by omega) with h | h | h
 ·rw [<-h,h3] at h0;injection h0 with h0;rw [h0];rfl
 ·rw [<-h,h3] at h1;injection h1 with h1;rw [h1];exact EC i1
 ·rw [<-h,h3] at h2;injection h2 with h2;rw [h2];exact EC i2
theorem bools_oneCell {w:World} {v:Value} (h:AR w ok v l):v.oneCell'=true:=by
 obtain ⟨A,c,rfl,_⟩:=h;rfl
theorem each_one {α:Type} {R:Value->α->Prop} {w:World} {v:Value} {l:List α} (E:AS w ok 1 v l.length vs) (he:∀(i:Nat) x,l[i]?=some x->∃u,vs[i]?=some u/\R u x) (h1:∀u x,R u x->u.oneCell'=true):∀u∈vs,u.oneCell'=true:=by
 intro u G;obtain ⟨j,D,rfl⟩:=zaq G;obtain ⟨A,c,_,_,I,_⟩:=E;obtain ⟨u,h2,h3⟩:=he j _ (Fw (show j<l.length by omega));rw [Fw D] at h2;injection h2 with h2;rw [h2];exact h1 _ _ h3
def OFI (w:World) (B:Nat) (u:Value):Prop:=∃l,AR w (fun b=>b+1<B) u l\/Ck w B u l
def TI (w:World) (B K:Nat) (u:Value):Prop:=∃l,l.length<=K/\(zg w (fun b=>b+1<B) u l\/zQ w B u l)
structure Bm (B:Nat) (w w':World):Prop where
 old:∀b,b<B->b<w.heap.size->w'.heap[b]?=w.heap[b]?
 typ:∀g ty cs,ze w g ty cs->ty=3\/ty=4->w'.heap[g]?=w.heap[g]?
theorem Bm.of_ext {B:Nat} {w w':World} (h:za w w'):Bm B w w':=⟨fun b _ D=>h.block b D,fun g ty cs D _=>h.block g (zd D)⟩
theorem Bm.trans {B:Nat} {a b c:World} (h:Bm B a b) (J:a.heap.size<=b.heap.size) (E:Bm B b c):Bm B a c:=
 ⟨fun k G I=>(E.old k G (zam I J)).trans (h.old k G I),fun g ty cs D ht=>(E.typ g ty cs ((h.typ g ty cs D ht).trans D) ht).trans (h.typ g ty cs D ht)⟩
theorem Bm.set {B:Nat} {w:World} {ty:TypeId} {cs:Array Value} (G:ze w g ty cs) (I:B<=g) (E:ty≠3/\ty≠4) (v:Value):Bm B w (w.setCell ⟨g,k,none⟩ v):=
 ⟨fun b D _=>FH w ⟨g,k,none⟩ v b (by show b≠g;omega),fun g' ty' cs' D ht=>FH w ⟨g,k,none⟩ v g' (ze.ne_ D G (by rcases ht with rfl | rfl;exact Ne.symm E.1;exact Ne.symm E.2))⟩
theorem Bm.grown {B:Nat} {w w':World} {v:Value} {e:TypeId} (I:w.ownsRow B e sz v n xs) (E:e≠3/\e≠4) (G:(w.alloc o).grownBy w' v.ownBlock):Bm B w w':=
 ⟨fun b M J=>(G.block b (by simp;omega) (fun e'=>by have:=(I.lt b e'.symm).1;omega)).trans (zad _ _ _ J),
 fun g' ty' cs' D ht=>(G.block g' (by have:=zd D;simp;omega) (fun e'=>zn I D (by rcases ht with rfl | rfl;exact E.1;exact E.2) e'.symm)).trans (zad _ _ _ (zd D))⟩
theorem OFI.keep {B:Nat} {w w':World} {u:Value} (h:OFI w B u) (G:Bm B w w'):OFI w' B u:=by
 obtain ⟨l,h | h⟩:=h
 ·exact ⟨l,.inl (h.keep fun b J D=>G.old b (by omega) D)⟩
 ·refine ⟨l,.inr ?_⟩;obtain ⟨D,h0 | ⟨g,cap,cur,rfl,h4,E,I⟩⟩:=h
  ·exact ⟨D,.inl h0⟩
  ·exact ⟨D,.inr ⟨g,cap,cur,rfl,h4,(G.typ g _ cur E (.inr rfl)).trans E,I⟩⟩
theorem TI.keep {B K:Nat} {w w':World} {u:Value} (h:TI w B K u) (G:Bm B w w'):TI w' B K u:=by
 obtain ⟨l,D,h | h⟩:=h
 ·exact ⟨l,D,.inl (h.keep fun b E I=>G.old b (by omega) I)⟩
 ·refine ⟨l,D,.inr ?_⟩;exact BV h fun g cs _ E=>G.typ g _ cs E (.inl rfl)
theorem OFI.bools {B:Nat} {w:World} {u:Value} (h:OFI w B u):∃l,AR w (fun b=>b+1≠B) u l:=by
 obtain ⟨l,h | h⟩:=h
 ·exact ⟨l,h.weaken fun _ _=>by omega⟩
 ·exact ⟨l,h.bools.weaken fun _ _=>by omega⟩
theorem TI.ints {B K:Nat} {w:World} (h:TI w B K u):∃l,l.length<=K/\zg w (fun b=>b+1≠B) u l:=by
 obtain ⟨l,D,h | h⟩:=h
 ·exact ⟨l,D,h.weaken fun _ _=>by omega⟩
 ·exact ⟨l,D,zg.weaken (AS.of_own h) fun _ _=>by omega⟩
theorem fds {B:Nat} {w:World} {v:Value} {fs:List Value} (h:∀u∈fs,OFI w B u) (I:AS w (fun b=>b+1≠B) 1 v n fs):∃l,BG w (fun b=>b+1≠B) v l/\l.length=n:=by
 have G:fs.length=n:=by
  obtain ⟨_,_,_,_,h1,_⟩:=I;omega
 obtain ⟨l,E,hp⟩:=chooseL (p:=fun j (x:List Bool)=>∃u,fs[j]?=some u/\AR w (fun b=>b+1≠B) u x) n (fun j J=>by
  obtain ⟨x,D⟩:=(h fs[j] (Fz _)).bools;exact ⟨x,_,Fw _,D⟩)
 exact ⟨l,⟨fs,by rw [E];exact I,fun i x D=>hp i x D⟩,E⟩
section
variable {wA wx w':World} {B b5 nF nT K:Nat} {a b c:Int} {vF vU vT:Value} {fs ts:List Value}
theorem U_keep {w w':World} (h:∃l,l.length<=K/\(AR w (fun b=>b+1<B) u l\/Ck w B u l)) (I:Bm B w w'):∃l,l.length<=K/\(AR w' (fun b=>b+1<B) u l\/Ck w' B u l):=by
 obtain ⟨l,G,h | h⟩:=h
 ·exact ⟨l,G,.inl (h.keep fun b M D=>I.old b (by omega) D)⟩
 ·refine ⟨l,G,.inr ?_⟩;obtain ⟨D,h0 | ⟨g,cap,cur,rfl,h4,E,J⟩⟩:=h
  ·exact ⟨D,.inl h0⟩
  ·exact ⟨D,.inr ⟨g,cap,cur,rfl,h4,(I.typ g _ cur E (.inr rfl)).trans E,J⟩⟩
theorem AP {w:World} {e:TypeId} {v x:Value} {ty:TypeId} {cs:Array Value} (h:w.ownsRow B e sz v n xs) (E:ze w g ty cs) (D:e≠ty):(w.setCell ⟨g,k,none⟩ x).ownsRow B e sz v n xs:=
 AK h fun g' G=>FH w ⟨g,k,none⟩ x g' (fun e'=>zn h E D (by rw [G];exact congrArg some e'))
end
theorem own_one (W:World) (B:Nat) (e:TypeId) (x:Value) (D:B<=W.heap.size):(W.alloc (.cells #[x] e)).ownsRow B e 1 (.slice (some ⟨W.heap.size,0,none⟩) 1 1) 1 [x]:=
 ⟨by simp,.inr ⟨W.heap.size,1,#[x],rfl,D,zax W _,Fy _,by decide,by simp,by simp⟩⟩
theorem intsOne {l:List Int}:∀u∈l.map (Value.int .i64),u.oneCell'=true:=by
 intro u D;obtain ⟨_,_,rfl⟩:=zaA.1 D;rfl
theorem prodB {x y a b:Int} (G:-a<=x/\x<=a) (I:-b<=y/\y<=b) (D:0<=a) (E:0<=b):-(a*b)<=x*y/\x*y<=a*b:=by
 have h1:x.natAbs<=a.natAbs:=by omega
 have h2:y.natAbs<=b.natAbs:=by omega
 have h3:(x*y).natAbs<=(a*b).natAbs:=by rw [Int.natAbs_mul,Int.natAbs_mul];exact Nat.mul_le_mul h1 h2
 have h4:0<=a*b:=Int.mul_nonneg D E;omega
theorem row3 (W:World) (a b c:Value) (t:TypeId):AS (W.alloc (.cells #[a,b,c] t)) (fun _=>True) 3 (.slice (some ⟨W.heap.size,0,none⟩) 1 1) 1 [a,b,c]:=
 ⟨_,_,rfl,Fy _,rfl,fun _=>⟨_,0,rfl,trivial,fun j u D=>by have:=cells3n W a b c t j u D;rwa [Addr.add_lit] at this⟩⟩
theorem own_made (W:World) (B N:Nat) (D:B<=W.heap.size) (E:N<=1000):Ck (W.alloc (.cells (madeCells #[.bool false] N) 4)) B (.slice (some ⟨W.heap.size,0,none⟩) N N) (List.replicate N false):=by
 have h1:(madeCells #[Value.bool false] N).toList=(List.replicate N false).map Value.bool:=by
  apply List.ext_getElem
  ·simp [madeCells]
  ·intro i h2 h3;simp [madeCells,Nat.mod_one]
 unfold Ck;rw [List.length_replicate];exact ⟨by simp,.inr ⟨W.heap.size,N,madeCells #[.bool false] N,rfl,D,zax W _,Fy _,by unfold maxLen;omega,by rw [<-Array.length_toList,h1];simp,by rw [h1];simp⟩⟩
theorem Bx.bound {w:World} {ok:Nat->Prop} {v:Value} {m:MZ} {ns:List ByteArray} (h:Bx w ok v m ns):Bx w (fun b=>ok b/\b<w.heap.size) v m ns:=by
 obtain ⟨f,u,t,rfl,h1,h2,D,vs,E,he⟩:=h;refine ⟨f,u,t,rfl,h1.bound,h2.bound,D,vs,AS.bound E (by decide),fun i x s I G=>?_⟩;obtain ⟨u1,u2,q0,q1,q2,i1,i2⟩:=he i x s I G;exact ⟨u1,u2,q0,q1,q2,i1.bound,i2.bound⟩
def OddPostN (w:World) (A Y:Int) (K:Nat) (e:Ending) (w':World):Prop:=∃v' m' ns',e=.returned v'/\za w w'/\Bx w' (fun _=>True) v' m' ns'/\OB m' A Y K/\∀s∈ns',s.size<=K
def OdSn (wA wx:World) (b:Nat) (A Y:Int) (K:Nat):Prop:=
 ∃m' ns vF vU vT,ze wx b 32 #[.int .i64 m'.w,.int .i64 m'.h,.int .i64 m'.l,vF,vU,vT]/\Bx wx (fun b=>b+1≠wA.heap.size) (.agg #[.int .i64 m'.w,.int .i64 m'.h,.int .i64 m'.l,vF,vU,vT]) m' ns/\OB m' A Y K/\za wA wx/\∀s∈ns,s.size<=K
def TDn (w:World) (B K n:Nat) (ts:List Value):Prop:=∀j,j<n->∃s u1 u2,ts[j*3]?=some (.string s)/\ts[j*3+1]?=some u1/\ts[j*3+2]?=some u2/\TI w B K u1/\TI w B K u2/\s.size<=K
theorem TDn.keep {B K n:Nat} {w w':World} {ts:List Value} (h:TDn w B K n ts) (D:Bm B w w'):TDn w' B K n ts:=fun j G=>by
 obtain ⟨s,u1,u2,h0,h1,h2,h3,h4,E⟩:=h j G;exact ⟨s,u1,u2,h0,h1,h2,h3.keep D,h4.keep D,E⟩
theorem TDn.more {B K K':Nat} {w:World} {ts:List Value} (h:TDn w B K n ts) (D:K<=K'):TDn w B K' n ts:=fun j J=>by
 obtain ⟨s,u1,u2,h0,h1,h2,⟨l1,h3,h4⟩,⟨l2,E,G⟩,I⟩:=h j J;exact ⟨s,u1,u2,h0,h1,h2,⟨l1,FA h3 D,h4⟩,⟨l2,FA E D,G⟩,FA I D⟩
theorem TDn.tasks {B K:Nat} {w:World} {v:Value} {ts:List Value} (h:TDn w B K n ts) (O:AS w (fun b=>b+1≠B) 3 v n ts):∃l ns,TasksN w (fun b=>b+1≠B) v l ns/\l.length=n/\(∀t∈l,t.1.length<=K/\t.2.length<=K)/\∀s∈ns,s.size<=K:=by
 obtain ⟨L,hL,hp⟩:=chooseL (p:=fun j (x:(List Int×List Int)×ByteArray)=>∃u1 u2,ts[j*3]?=some (.string x.2)/\ts[j*3+1]?=some u1/\ts[j*3+2]?=some u2/\zg w (fun b=>b+1≠B) u1 x.1.1/\zg w (fun b=>b+1≠B) u2 x.1.2/\(x.1.1.length<=K/\x.1.2.length<=K)/\x.2.size<=K) n (fun j I=>by
  obtain ⟨s,u1,u2,h0,h1,h2,h3,h4,J⟩:=h j I;obtain ⟨l1,k1,i1⟩:=h3.ints;obtain ⟨l2,k2,i2⟩:=h4.ints;exact ⟨((l1,l2),s),u1,u2,h0,h1,h2,i1,i2,⟨k1,k2⟩,J⟩)
 refine ⟨L.map (·.1),L.map (·.2),⟨by simp,ts,by rw [zau,hL];exact O,fun i x s E D=>?_⟩,by rw [zau,hL],fun t ht=>?_,fun s D=>?_⟩
 ·rw [zat] at E D
  cases G:L[i]? with
  | none=>rw [G] at E;cases E
  | some y=>
   rw [G] at E D;injection E with E;injection D with D;obtain ⟨u1,u2,h0,h1,h2,h3,h4,_⟩:=hp i y G;rw [<-E,<-D];exact ⟨u1,u2,h0,h1,h2,h3,h4⟩
 ·obtain ⟨y,G,rfl⟩:=zaA.1 ht;obtain ⟨j,I,rfl⟩:=zaq G;obtain ⟨_,_,_,_,_,_,_,J,_⟩:=hp j _ (Fw I);exact J
 ·obtain ⟨y,G,rfl⟩:=zaA.1 D;obtain ⟨j,I,rfl⟩:=zaq G;obtain ⟨_,_,_,_,_,_,_,_,M⟩:=hp j _ (Fw I);exact M
structure Fq (wA wx:World) (B b5 nF nT K:Nat) (a b c:Int) (vF vU vT:Value) (fs ts:List Value):Prop where
 hB:B=wA.heap.size
 h5:B<=b5
 ext:za wA wx
 blk:ze wx b5 32 #[.int .i64 a,.int .i64 b,.int .i64 c,vF,vU,vT]
 F:wx.ownsRow B 29 1 vF nF fs
 T:wx.ownsRow B 87 3 vT nT ts
 fd:∀u∈fs,OFI wx B u
 td:TDn wx B K nT ts
 U:∃l,l.length<=K/\(AR wx (fun b=>b+1<B) vU l\/Ck wx B vU l)
 kF:nF<=K
 kT:nT<=K
section
variable {wA wx w':World} {B b5 nF nT K:Nat} {a b c:Int} {vF vU vT:Value} {fs ts:List Value}
theorem Fq.fin (h:Fq wA wx B b5 nF nT K a b c vF vU vT fs ts) (M:-A<=a/\a<=A) (O:-Y<=b/\b<=Y) (Q:-A<=c/\c<=A):OdSn wA wx b5 A Y K:=by
 obtain ⟨fr,h1,h2⟩:=fds h.fd (AS.weaken (AS.of_own h.F) fun _ _=>by omega);obtain ⟨tk,ns,h3,h4,D,I⟩:=h.td.tasks (AS.weaken (AS.of_own h.T) fun _ _=>by omega);obtain ⟨up,E,h7⟩:=h.U
 have G:AR wx (fun b=>b+1≠B) vU up:=by
  rcases h7 with h7 | h7
  ·exact h7.weaken fun _ _=>by omega
  ·exact h7.bools.weaken fun _ _=>by omega
 have J:=h.hB;subst J;exact ⟨⟨a,b,c,fr,up,tk⟩,ns,vF,vU,vT,h.blk,⟨vF,vU,vT,rfl,h1,G,h3⟩,⟨M,O,Q,by have:=h.kF;show fr.length<=K;omega,E,by have:=h.kT;show tk.length<=K;omega,D⟩,h.ext,I⟩
theorem Fq.more {K':Nat} (h:Fq wA wx B b5 nF nT K a b c vF vU vT fs ts) (D:K<=K'):Fq wA wx B b5 nF nT K' a b c vF vU vT fs ts:=by
 obtain ⟨l,h1,h2⟩:=h.U;exact ⟨h.hB,h.h5,h.ext,h.blk,h.F,h.T,h.fd,h.td.more D,⟨l,FA h1 D,h2⟩,FA h.kF D,FA h.kT D⟩
theorem Fq.grow (h:Fq wA wx B b5 nF nT K a b c vF vU vT fs ts) (D:za wx w'):Fq wA w' B b5 nF nT K a b c vF vU vT fs ts:=
 ⟨h.hB,h.h5,h.ext.trans D,h.blk.ext D,AK h.F fun g E=>D.block g (h.F.lt g E).2,AK h.T fun g E=>D.block g (h.T.lt g E).2,fun u G=>(h.fd u G).keep (Bm.of_ext D),h.td.keep (Bm.of_ext D),U_keep h.U (Bm.of_ext D),h.kF,h.kT⟩
theorem Fq.setI (h:Fq wA wx B b5 nF nT K a b c vF vU vT fs ts) (k:Nat) (x:Int) {a' b' c':Int} (E:(#[.int .i64 a,.int .i64 b,.int .i64 c,vF,vU,vT]:Array Value).setIfInBounds k (.int .i64 x)=#[.int .i64 a',.int .i64 b',.int .i64 c',vF,vU,vT]):
  Fq wA (wx.setCell ⟨b5,k,none⟩ (.int .i64 x)) B b5 nF nT K a' b' c' vF vU vT fs ts:=by
 have D:=Bm.set (k:=k) h.blk h.h5 (by decide) (.int .i64 x);exact ⟨h.hB,h.h5,h.ext.setCell (p:=⟨b5,k,none⟩) (show wA.heap.size<=b5 by have:=h.hB;have:=h.h5;omega) _,by have:=h.blk.set (k:=k) (.int .i64 x);rwa [E] at this,AP h.F h.blk (by decide),AP h.T h.blk (by decide),fun u G=>(h.fd u G).keep D,h.td.keep D,U_keep h.U D,h.kF,h.kT⟩
theorem Fq.addT (h:Fq wA wx B b5 nF nT K a b c vF vU vT fs ts) {vT':Value} (ho:w5.ownsRow B 87 3 vT' n' (ts++news)) (E:(wx.alloc o).grownBy w5 vT.ownBlock) (hn:n'<=K) (V:∀w2,Bm B wx w2->wx.heap.size<=w2.heap.size->TDn w2 B K n' (ts++news)):
  Fq wA (w5.setCell ⟨b5,5,none⟩ vT') B b5 nF n' K a b c vF vU vT' fs (ts++news):=by
 have Q:=Bm.grown h.T (by decide) E;have I:wx.heap.size<=w5.heap.size:=FA (by simp) E.size;have D:ze w5 b5 32 #[.int .i64 a,.int .i64 b,.int .i64 c,vF,vU,vT]:=((E.block b5 (by have:=zd h.blk;simp;omega) (fun e=>zn h.T h.blk (by decide) e.symm)).trans (zad _ _ _ (zd h.blk))).trans h.blk
 have O:w5.ownsRow B 29 1 vF nF fs:=by
  obtain ⟨hl,h0 | ⟨g,cap,cur,e,h4,J,h6⟩⟩:=h.F
  ·exact ⟨hl,.inl h0⟩
  ·exact ⟨hl,.inr ⟨g,cap,cur,e,h4,((E.block g (by have:=zd J;simp;omega) (fun e=>zn h.T J (by decide) e.symm)).trans (zad _ _ _ (zd J))).trans J,h6⟩⟩
 have G:Bm B wx (w5.setCell ⟨b5,5,none⟩ vT'):=Q.trans I (Bm.set D h.h5 (by decide) _);have M:za wA w5:=(h.ext.alloc o).grown E (FA h.ext.size (by simp)) (fun k G=>by have:=(h.T.lt k G).1;have:=h.hB;omega);refine ⟨h.hB,h.h5,M.setCell (p:=⟨b5,5,none⟩) (show wA.heap.size<=b5 by have:=h.hB;have:=h.h5;omega) _,D.set (k:=5) vT',AP O D (by decide),AP ho D (by decide),fun u hu=>(h.fd u hu).keep G,V _ G (by simpa [World.setCell] using I),U_keep h.U G,h.kF,hn⟩
theorem Fq.addF (h:Fq wA wx B b5 nF nT K a b c vF vU vT fs ts) {vF':Value} (ho:w5.ownsRow B 29 1 vF' n' (fs++news)) (G:(wx.alloc o).grownBy w5 vF.ownBlock) (hn:n'<=K) (Q:∀w2,Bm B wx w2->wx.heap.size<=w2.heap.size->∀u∈news,OFI w2 B u):
  Fq wA (w5.setCell ⟨b5,3,none⟩ vF') B b5 n' nT K a b c vF' vU vT (fs++news) ts:=by
 have V:=Bm.grown h.F (by decide) G;have I:wx.heap.size<=w5.heap.size:=FA (by simp) G.size;have D:ze w5 b5 32 #[.int .i64 a,.int .i64 b,.int .i64 c,vF,vU,vT]:=((G.block b5 (by have:=zd h.blk;simp;omega) (fun e=>zn h.F h.blk (by decide) e.symm)).trans (zad _ _ _ (zd h.blk))).trans h.blk
 have O:w5.ownsRow B 87 3 vT nT ts:=by
  obtain ⟨hl,h0 | ⟨g,cap,cur,e,h4,J,h6⟩⟩:=h.T
  ·exact ⟨hl,.inl h0⟩
  ·exact ⟨hl,.inr ⟨g,cap,cur,e,h4,((G.block g (by have:=zd J;simp;omega) (fun e=>zn h.F J (by decide) e.symm)).trans (zad _ _ _ (zd J))).trans J,h6⟩⟩
 have E:Bm B wx (w5.setCell ⟨b5,3,none⟩ vF'):=V.trans I (Bm.set D h.h5 (by decide) _);have M:za wA w5:=(h.ext.alloc o).grown G (FA h.ext.size (by simp)) (fun k E=>by have:=(h.F.lt k E).1;have:=h.hB;omega);refine ⟨h.hB,h.h5,M.setCell (p:=⟨b5,3,none⟩) (show wA.heap.size<=b5 by have:=h.hB;have:=h.h5;omega) _,D.set (k:=3) vF',AP ho D (by decide),AP O D (by decide),fun u hu=>?_,h.td.keep E,U_keep h.U E,hn,h.kT⟩;rcases za0.1 hu with hu | hu
 ·exact (h.fd u hu).keep E
 ·exact Q _ E (by simpa [World.setCell] using I) u hu
theorem Fq.start {w6 w7:World} {o1 o2:Obj} {vF0 vT0:Value} (a2:B=wA.heap.size) (h5:B<=b5) (I:za wA w5) (M:ze w5 b5 32 #[.int .i64 a,.int .i64 b,.int .i64 c,vF0,vU,vT0])
  (b0:w6.ownsRow B 87 3 vT nT ts) (J:(w5.alloc o1).grownBy w6 (some w5.heap.size)) (a9:w7.ownsRow B 29 1 vF nF fs) (U:((w6.setCell ⟨b5,5,none⟩ vT).alloc o2).grownBy w7 (some w6.heap.size))
  (a6:∀u∈fs,∃l,AR wA (fun b=>b+1<B) u l) (b1:TDn wA B K nT ts) (hU:∃l,l.length<=K/\AR wA (fun b=>b+1<B) vU l) (a7:nF<=K) (a8:nT<=K):Fq wA (w7.setCell ⟨b5,3,none⟩ vF) B b5 nF nT K a b c vF vU vT fs ts:=by
 have l5:=zd M;have b3:=I.size;have O:za wA w6:=(I.alloc o1).grown J (FA I.size (by simp)) (fun k V=>by injection V with V;omega);have h6:ze w6 b5 32 #[.int .i64 a,.int .i64 b,.int .i64 c,vF0,vU,vT0]:=((J.block b5 (by simp;omega) (fun e=>by injection e with e;omega)).trans (zad _ _ _ l5)).trans M;have s6:w5.heap.size+1<=w6.heap.size:=by have:=J.size;simpa using this
 have a0:ze (w6.setCell ⟨b5,5,none⟩ vT) b5 32 #[.int .i64 a,.int .i64 b,.int .i64 c,vF0,vU,vT]:=h6.set (k:=5) vT;have Q:(w6.setCell ⟨b5,5,none⟩ vT).ownsRow B 87 3 vT nT ts:=AP b0 h6 (by decide);have E:za wA (w6.setCell ⟨b5,5,none⟩ vT):=O.setCell (p:=⟨b5,5,none⟩) (show wA.heap.size<=b5 by omega) _;have z6:(w6.setCell ⟨b5,5,none⟩ vT).heap.size=w6.heap.size:=by simp [World.setCell]
 have a3:za wA w7:=(E.alloc o2).grown U (FA E.size (by simp)) (fun k V=>by injection V with V;have:=O.size;omega);have G:∀g,g<w6.heap.size->w7.heap[g]?=(w6.setCell ⟨b5,5,none⟩ vT).heap[g]?:=fun g hg=>(U.block g (by simp [z6];omega) (fun e=>by injection e with e;omega)).trans (zad _ _ _ (by omega))
 have h7:ze w7 b5 32 #[.int .i64 a,.int .i64 b,.int .i64 c,vF0,vU,vT]:=(G b5 (by omega)).trans a0;have a4:w7.ownsRow B 87 3 vT nT ts:=AK Q fun g hg=>G g (by have:=(Q.lt g hg).2;omega)
 have D:za wA (w7.setCell ⟨b5,3,none⟩ vF):=a3.setCell (p:=⟨b5,3,none⟩) (show wA.heap.size<=b5 by omega) _;obtain ⟨l,hl,hU⟩:=hU;refine ⟨a2,h5,D,h7.set (k:=3) vF,AP a9 h7 (by decide),AP a4 h7 (by decide),fun u hu=>?_,fun j hj=>?_,⟨l,hl,.inl (hU.below D)⟩,a7,a8⟩
 ·obtain ⟨x,hx⟩:=a6 u hu;exact ⟨x,.inl (hx.below D)⟩
 ·exact b1.keep (Bm.of_ext D) j hj
theorem Fq.setT (h:Fq wA wx B b5 nF nT K a b c vF vU vT fs ts) {j r:Nat} {x:Value} (hv:vT=.slice (some ⟨g,0,none⟩) nT cap) (hj:j<nT) (hr:r=1\/r=2) (hx:TI wx B K x):
  Fq wA (wx.setCell ⟨g,j*3+r,none⟩ x) B b5 nF nT K a b c vF vU vT fs (ts.set (j*3+r) x):=by
 subst hv;have M:=h.T.lt g rfl;obtain ⟨cs,I⟩:=Es h.T;have G:=Bm.set (k:=j*3+r) I M.1 (by decide) x;have O:=h.T.stored (j*3+r) x;have Q:ts.length=nT*3:=h.T.1;refine ⟨h.hB,h.h5,h.ext.setCell (p:=⟨g,j*3+r,none⟩) (show wA.heap.size<=g by have:=h.hB;omega) _,(FH wx ⟨g,j*3+r,none⟩ x b5 (ze.ne_ h.blk I (by decide))).trans h.blk,AP h.F I (by decide),O.1,fun u hu=>(h.fd u hu).keep G,fun i V=>?_,U_keep h.U G,h.kF,h.kT⟩;obtain ⟨s,u1,u2,h0,h1,h2,h3,h4,D⟩:=h.td.keep G i V;have E:=hx.keep G;by_cases J:i=j
 ·subst J;rcases hr with rfl | rfl
  ·exact ⟨s,x,u2,by rw [List.getElem?_set_ne (by omega)];exact h0,by rw [List.getElem?_set_self (by omega)],by rw [List.getElem?_set_ne (by omega)];exact h2,E,h4,D⟩
  ·exact ⟨s,u1,x,by rw [List.getElem?_set_ne (by omega)];exact h0,by rw [List.getElem?_set_ne (by omega)];exact h1,by rw [List.getElem?_set_self (by omega)],h3,E,D⟩
 ·exact ⟨s,u1,u2,by rw [List.getElem?_set_ne (by omega)];exact h0,by rw [List.getElem?_set_ne (by omega)];exact h1,by rw [List.getElem?_set_ne (by omega)];exact h2,h3,h4,D⟩
theorem Fq.setU (h:Fq wA wx B b5 nF nT K a b c vF vU vT fs ts) {vU':Value} (E:l.length<=K) (G:Ck wx B vU' l):Fq wA (wx.setCell ⟨b5,4,none⟩ vU') B b5 nF nT K a b c vF vU' vT fs ts:=by
 have D:=Bm.set (k:=4) h.blk h.h5 (by decide) vU';exact ⟨h.hB,h.h5,h.ext.setCell (p:=⟨b5,4,none⟩) (show wA.heap.size<=b5 by have:=h.hB;have:=h.h5;omega) _,h.blk.set (k:=4) vU',AP h.F h.blk (by decide),AP h.T h.blk (by decide),fun u I=>(h.fd u I).keep D,h.td.keep D,⟨l,E,.inr (AP G h.blk (by decide))⟩,h.kF,h.kT⟩
theorem Fq.drop1 (h:Fq wA wx B b5 nF nT K a b c vF vU vT fs ts) (hv:vF=.slice (some ⟨g,0,none⟩) nF cap) (hp:0<nF) (ha:-A<=a/\a<=A) (hb:-Y<=b/\b<=Y) (hc:-A<=c/\c<=A):
  OdSn wA (wx.setCell ⟨b5,3,none⟩ (.slice (some ⟨g,1,none⟩) (nF - 1) (cap - 1))) b5 A Y K:=by
 subst hv;have G:=Bm.set (k:=3) h.blk h.h5 (by decide) (.slice (some ⟨g,1,none⟩) (nF - 1) (cap - 1));obtain ⟨tk,ns,h3,h4,M,I⟩:=(h.td.keep G).tasks (AS.weaken (AS.of_own (AP h.T h.blk (k:=3) (x:=.slice (some ⟨g,1,none⟩) (nF - 1) (cap - 1)) (by decide))) fun _ _=>by omega);obtain ⟨up,O,h7⟩:=U_keep h.U G
 have Q:AR (wx.setCell ⟨b5,3,none⟩ (.slice (some ⟨g,1,none⟩) (nF - 1) (cap - 1))) (fun b=>b+1≠B) vU up:=by
  rcases h7 with h7 | h7
  ·exact h7.weaken fun _ _=>by omega
  ·exact h7.bools.weaken fun _ _=>by omega
 have hF:=AP h.F h.blk (k:=3) (x:=.slice (some ⟨g,1,none⟩) (nF - 1) (cap - 1)) (by decide);have E:fs.length=nF:=by have:=h.F.1;omega
 have J:=Bq h.F;have a3:=(h.F.lt g rfl).1
 obtain ⟨fr,h1,h2⟩:=fds (v:=.slice (some ⟨g,1,none⟩) (nF - 1) (cap - 1)) (n:=nF - 1) (fs:=fs.drop 1) (B:=B) (fun u D=>(h.fd u (List.mem_of_mem_drop D)).keep G)
  ⟨_,_,rfl,by omega,by simp [E],fun _=>⟨g,1,rfl,by omega,fun j u D=>by
   rw [List.getElem?_drop] at D
   have hj:1+j<fs.length:=by
    rcases zah (1+j) fs.length with h9 | h9
    ·exact h9
    ·rw [zae h9] at D;cases D
   exact (hF.cellAt (1+j) (by omega)).trans D⟩⟩
 have V:=h.hB;subst V;exact ⟨⟨a,b,c,fr,up,tk⟩,ns,_,vU,vT,h.blk.set (k:=3) _,⟨_,vU,vT,rfl,h1,Q,h3⟩,⟨ha,hb,hc,by have:=h.kF;show fr.length<=K;omega,O,by have:=h.kT;show tk.length<=K;omega,M⟩,h.ext.setCell (p:=⟨b5,3,none⟩) h.h5 _,I⟩
theorem Fq.drop0 (h:Fq wA wx B b5 nF nT K a b c vF vU vT fs ts) (A0:Option Addr) (c0:Nat) (O:-A<=a/\a<=A) (Q:-Y<=b/\b<=Y) (V:-A<=c/\c<=A):
  OdSn wA (wx.setCell ⟨b5,3,none⟩ (.slice A0 0 c0)) b5 A Y K:=by
 have E:=Bm.set (k:=3) h.blk h.h5 (by decide) (.slice A0 0 c0);obtain ⟨tk,ns,h3,h4,G,D⟩:=(h.td.keep E).tasks (AS.weaken (AS.of_own (AP h.T h.blk (k:=3) (x:=.slice A0 0 c0) (by decide))) fun _ _=>by omega);obtain ⟨up,I,h7⟩:=U_keep h.U E
 have J:AR (wx.setCell ⟨b5,3,none⟩ (.slice A0 0 c0)) (fun b=>b+1≠B) vU up:=by
  rcases h7 with h7 | h7
  ·exact h7.weaken fun _ _=>by omega
  ·exact h7.bools.weaken fun _ _=>by omega
 have M:=h.hB;subst M;exact ⟨⟨a,b,c,[],up,tk⟩,ns,_,vU,vT,h.blk.set (k:=3) _,⟨_,vU,vT,rfl,⟨[],⟨A0,c0,rfl,FN _,Ba.nil _ _ _ _⟩,fun i x hx=>by simp at hx⟩,J,h3⟩,⟨O,Q,V,FN _,I,by have:=h.kT;show tk.length<=K;omega,G⟩,h.ext.setCell (p:=⟨b5,3,none⟩) h.h5 _,D⟩
end
end
section
open Go.RowKit
attribute [local go_sem ↓] Go.wp_at_zero Go.wp_at_succ
theorem odqn_end {a:Act} {W:World} {x0 x1 x2 x3 x4 x5:Value} {R:Ending->World->Prop} (D:a.tmps[4]?=some (.pointer (some ⟨g,0,none⟩))) (G:a.defers=[]) (E:ze W g 32 #[x0,x1,x2,x3,x4,x5]) (h:R (.returned (.agg #[x0,x1,x2,x3,x4,x5])) W):bodyPost Tryz.prog Tryz.f11 R Exit.ret a W:=by
 obtain ⟨c0,c1,c2,c3,c4,c5⟩:=zt E;have e:a.tmps.getD 4 undef=.pointer (some ⟨g,0,none⟩):=by rw [Array.getD_eq_getD_getElem?,D];rfl
 exact za5 (v:=.agg #[x0,x1,x2,x3,x4,x5]) (by simp [results,Tryz.results11,go_sem,D,e,c0,c1,c2,c3,c4,c5]) G h
theorem oddN_calls {okm:Nat->Prop} {v:Value} {K:Nat} (o0 o1 o2:Int) (w:World) (hm:Bx w okm v m ns) (p9:∀s∈ns,s.size<=K) (hb:OB m A Y K) (hA:0<=A/\A<=100) (hY:0<=Y/\Y<=1000) (I:K<=100):
  Calls Tryz.prog 11 #[v,.agg #[.int .i64 o0,.int .i64 o1,.int .i64 o2]] w (OddPostN w (A+6) (100*Y) (K+20)):=by
 obtain ⟨hA0,hA1⟩:=hA;obtain ⟨b7,n3⟩:=hY;have x7:=hm.bound;obtain ⟨vfr,vup,vts,rfl,x1,q9,y6⟩:=x7;clear hm;obtain ⟨vsf,j5,i5⟩:=x1;obtain ⟨y0,vst,j6,f4⟩:=y6
 have i6:∀(i:Nat) x,m.tasks[i]?=some x->∃s u1 u2,vst[i*3]?=some (.string s)/\vst[i*3+1]?=some u1/\vst[i*3+2]?=some u2/\zg w (fun b=>okm b/\b<w.heap.size) u1 x.1/\zg w (fun b=>okm b/\b<w.heap.size) u2 x.2/\s.size<=K:=fun i x hx=>by
  obtain ⟨hi,-⟩:=za6.1 hx;obtain ⟨u1,u2,h0,h1,h2,i1,i2⟩:=f4 i x _ hx (Fw (show i<ns.length by omega));exact ⟨_,u1,u2,h0,h1,h2,i1,i2,p9 _ (Fz _)⟩
 clear f4 p9 y0;have t7:=zh (each_one j5 i5 fun u x h=>bools_oneCell h);have t8:=zh (tasks_one j6 rfl fun i x hx=>by obtain ⟨s,u1,u2,h0,h1,h2,i1,i2,-⟩:=i6 i x hx;exact ⟨s,u1,u2,h0,h1,h2,i1,i2⟩);have l6:=zh j5;have s4:=zh i5;have t9:=zh j6;have s5:=zh i6;have l8:=zh q9;obtain ⟨Af,cf,rfl,B6,-⟩:=j5;obtain ⟨At,ct,rfl,B7,-⟩:=j6;obtain ⟨Au,cu,rfl,B8,-⟩:=q9;have t6:=zh hb;obtain ⟨⟨r5,r6⟩,⟨o6,o7⟩,⟨p6,p7⟩,x3,x5,x4,-⟩:=hb;clear i5 i6
 go_enter Tryz.func11,Tryz.ntmps11
 go_upto_region 2 with fail;obtain ⟨wA,b1⟩:=zaI (((w.alloc (.cells #[.int .i64 m.w,.int .i64 m.h,.int .i64 m.l,.slice Af m.free.length cf,.slice Au m.up.length cu,.slice At m.tasks.length ct] 32)).alloc (.cells #[.int .i64 o0,.int .i64 o1,.int .i64 o2] 24)).alloc (.cells #[.int .i64 0,.int .i64 0,.int .i64 0,.slice none 0 0,.slice none 0 0,.slice none 0 0] 32));have g8:ze wA w.heap.size 32 #[.int .i64 m.w,.int .i64 m.h,.int .i64 m.l,.slice Af m.free.length cf,.slice Au m.up.length cu,.slice At m.tasks.length ct]:=by rw [b1];exact ((ze.new _ _ _ rfl).alloc _).alloc _
 have e8:ze wA (w.heap.size+1) 24 #[.int .i64 o0,.int .i64 o1,.int .i64 o2]:=by rw [b1];exact (ze.new _ _ _ (by simp)).alloc _
 have g9:ze wA (w.heap.size+2) 32 #[.int .i64 0,.int .i64 0,.int .i64 0,.slice none 0 0,.slice none 0 0,.slice none 0 0]:=by rw [b1];exact ze.new _ _ _ (by simp)
 have m9:za w wA:=by rw [b1];exact (((za.refl w).alloc _).alloc _).alloc _
 have y4:wA.heap.size=w.heap.size+3:=by rw [b1];simp
 rw [<-b1];clear b1;obtain ⟨b5,n4⟩:=zaI (w.heap.size+2+1);obtain ⟨b4,i4⟩:=zaI (w.heap.size+2);obtain ⟨b3,i3⟩:=zaI (w.heap.size+1);obtain ⟨b2,i0⟩:=zaI w.heap.size;rw [<-n4,<-i4,<-i3,<-i0];rw [<-i0] at g8;rw [<-i3] at e8;rw [<-i4] at g9;generalize k6:wA.alloc (.cells #[.int .i64 m.w,.int .i64 m.h,.int .i64 m.l,.slice Af m.free.length cf,.slice Au m.up.length cu,.slice At m.tasks.length ct] 32)=w5;have a6:za wA w5:=by rw [<-k6];exact (za.refl _).alloc _
 have m7:ze w5 b5 32 #[.int .i64 m.w,.int .i64 m.h,.int .i64 m.l,.slice Af m.free.length cf,.slice Au m.up.length cu,.slice At m.tasks.length ct]:=by rw [<-k6];exact ze.new _ _ _ (by omega)
 have a4:Hid (wA.heap.size=b5/\b4<b5/\w.heap.size<=b4/\b4+1=wA.heap.size):=⟨by omega,by omega,by omega,by omega⟩;have a5:=zh m9;have s2:=zh a6;have r8:=zh g9;obtain ⟨m0,m1,m2,m3,m4,m5⟩:=zt g8;have q0:=za.rule m0;have q1:=za.rule m1;have q2:=za.rule m2;have q3:=za.rule m3;have q4:=za.rule m4;have q5:=za.rule m5;have s0:∀W,za wA W->W.cell? ⟨b3,0,none⟩=some (.int .i64 o0):=za.rule (e8.cell (k:=0) rfl);have s1:∀W,za wA W->W.cell? ⟨b3,1,none⟩=some (.int .i64 o1):=za.rule (e8.cell (k:=1) rfl);have g1:=zh m7;clear m0 m1 m2 m3 m4 m5 g8 e8 g9 k6 y4 n4 i4 i3 i0 m9 m7;have B5:=Dn wA
 go_wp2_with (at_builtin;refine AE rfl _ _ _ eTask rfl wA.heap.size 0 m.tasks.length [] _ _ _ rfl rfl (own_emptyT w5 wA.heap.size _ _ a6.size) (t9.out.below (a5.out.trans (a6.alloc _))) t8.out (FA a6.size (by simp)) (by unfold maxLen;omega) (by omega) ?_)
 intro vT w6 b0 f7 k5;clear k5;have a7:(w5.alloc (.cells #[] 87)).grownBy w6 (some w5.heap.size):=f7;clear f7;have l5:=zd g1.out;have h6:ze w6 b5 32 #[.int .i64 m.w,.int .i64 m.h,.int .i64 m.l,.slice Af m.free.length cf,.slice Au m.up.length cu,.slice At m.tasks.length ct]:=((a7.block b5 (by simp;omega) (fun e=>by injection e with e;omega)).trans (zad _ _ _ l5)).trans g1.out;have m8:za wA w6:=(a6.alloc _).grown a7 (FA a6.size (by simp)) (fun k hk=>by injection hk with hk;have:=a6.size;omega);have c6:w6.cell? ⟨b5,5,none⟩=some (.slice At m.tasks.length ct):=h6.cell (k:=5) rfl;have f6:w6.frozen? ⟨b5,5,none⟩=false:=h6.frozen 5;have U:=zh b0;have s8:=zh a7;have H6:=zh h6;have s3:=zh m8;obtain ⟨AT,cT,rfl,-⟩:=AS.of_own b0;clear b0 a7 h6 l5;go_upto_region 3 with fail;generalize e5:w6.setCell ⟨b5,5,none⟩ (.slice AT m.tasks.length cT)=w7;have f0:za wA w7:=by rw [<-e5];exact s3.out.setCell (p:=⟨b5,5,none⟩) (show wA.heap.size<=b5 by have:=a4.out.1;omega) _
 have h7:ze w7 b5 32 #[.int .i64 m.w,.int .i64 m.h,.int .i64 m.l,.slice Af m.free.length cf,.slice Au m.up.length cu,.slice AT m.tasks.length cT]:=by rw [<-e5];exact H6.out.set (k:=5) _
 have q8:w7.heap.size=w6.heap.size:=by rw [<-e5];simp [World.setCell]
 have l9:=zh e5;have v5:=zh q8;clear e5 c6 f6 m8 a6 q8
 go_wp2_with (at_builtin;refine AE rfl _ _ _ eBools rfl wA.heap.size 0 m.free.length [] _ _ _ rfl rfl (own_emptyT w7 wA.heap.size _ _ f0.size) (l6.out.below (a5.out.trans (f0.alloc _))) t7.out (FA f0.size (by simp)) (by unfold maxLen;omega) (by omega) ?_)
 intro vF w8 a9 f5 k5;clear k5;have a1:(w7.alloc (.cells #[] 29)).grownBy w8 (some w7.heap.size):=f5;clear f5;have l7:=zd h7;have h8:ze w8 b5 32 #[.int .i64 m.w,.int .i64 m.h,.int .i64 m.l,.slice Af m.free.length cf,.slice Au m.up.length cu,.slice AT m.tasks.length cT]:=((a1.block b5 (by simp;omega) (fun e=>by injection e with e;omega)).trans (zad _ _ _ l7)).trans h7;have c8:w8.cell? ⟨b5,3,none⟩=some (.slice Af m.free.length cf):=h8.cell (k:=3) rfl;have f8:w8.frozen? ⟨b5,3,none⟩=false:=h8.frozen 3;have n1:=t6.out.te
 have b8:Fq wA (w8.setCell ⟨b5,3,none⟩ vF) wA.heap.size b5 m.free.length m.tasks.length K m.w m.h m.l vF (.slice Au m.up.length cu) (.slice AT m.tasks.length cT) vsf vst:=by
  have n9:=a1;rw [<-l9.out] at n9;refine Fq.start (o2:=.cells #[] 29) rfl (by have:=a4.out.1;omega) (w5:=w5) (vF0:=.slice Af m.free.length cf) (vT0:=.slice At m.tasks.length ct) s2.out g1.out U.out s8.out a9 ?_ (fun u hu=>?_) (fun j hj=>?_) ⟨m.up,x5,?_⟩ x3 x4
  ·rw [v5.out,<-l9.out] at a1;exact a1
  ·obtain ⟨i,hi,rfl⟩:=zaq hu;obtain ⟨_,_,_,_,hl,_⟩:=l6.out;obtain ⟨u',h1,h2⟩:=s4.out i _ (Fw (by omega));rw [Fw hi] at h1;injection h1 with h1;exact ⟨_,by rw [h1];exact (h2.below a5.out).weaken fun b hb=>by have:=hb.2;have:=a4.out;omega⟩
  ·obtain ⟨s,u1,u2,h0,h1,h2,h3,h4,y5⟩:=s5.out j _ (Fw hj);have:=n1 _ (Fz hj);exact ⟨s,u1,u2,h0,h1,h2,⟨_,this.1,.inl ((h3.below a5.out).weaken fun b hb=>by have:=hb.2;have:=a4.out;omega)⟩,⟨_,this.2,.inl ((h4.below a5.out).weaken fun b hb=>by have:=hb.2;have:=a4.out;omega)⟩,y5⟩
  ·exact (l8.out.below a5.out).weaken fun b hb=>by have:=hb.2;have:=a4.out;omega
 have E:=zh b8;obtain ⟨AF,cF,rfl,-⟩:=AS.of_own a9;clear b8 n1 a9 a1 h8 l7 h7 f0;go_upto_region 4 with fail;clear c8 f8;generalize w8.setCell ⟨b5,3,none⟩ (.slice AF m.free.length cF)=w9 at*;have J:za wA w9:=E.out.ext
 go_wp2_with fail
 refine (mod_calls o1 7 w9 (by omega) (by omega)).mono ?_;rintro e w' ⟨rfl,rfl⟩;obtain ⟨n,hn⟩:=zaI (o1 % 7 - 2);have C2:-2<=n/\n<=4:=by have:=Int.emod_nonneg o1 (show (7:Int)≠0 by omega);have:=Int.emod_lt_of_pos o1 (show (0:Int)<7 by omega);omega
 have y2:IntKind.i64.wrap (o1 % 7 - 2)=n:=by rw [zag];omega
 have q6:o1 % 7 - 2=n:=hn.symm;clear hn
 go_wp2_with fail
 refine (mod_calls o0 8 w9 (by omega) (by omega)).mono ?_;rintro e w' ⟨rfl,rfl⟩;obtain ⟨d,hd⟩:=zaI (o0 % 8);have w4:d=0\/d=1\/d=2\/d=3\/d=4\/d=5\/d=6\/d=7:=by have:=Int.emod_nonneg o0 (show (8:Int)≠0 by omega);have:=Int.emod_lt_of_pos o0 (show (0:Int)<8 by omega);omega
 rw [<-hd];clear hd s0 s1
 go_upto_block 0 with fail
 go_cut [] (fun wx=>Hid (OdSn wA wx b5 (A+6) (100*Y) (K+20)))
 case rest=>
  obtain ⟨wc',rfl⟩:∃W:World,W=wc:=⟨_,rfl⟩;have G:=zh hcut.out;clear hcut J y2 q6;go_upto_region 29 with fail;generalize wc'=wc at*;have D:=G.out;clear E;obtain ⟨m',ns',vF',vU',vT',n5,p8,q7,d6,f9⟩:=D;have t4:=zh p8;have l4:=zh q7;have s6:=zh d6;obtain ⟨f',u',t',e',⟨_,⟨A1,c1,rfl,-⟩,-⟩,⟨A2,c2,rfl,-⟩,⟨-,_,⟨A3,c3,rfl,-⟩,-⟩⟩:=p8;injection e' with e';injection e' with e';simp only [List.cons.injEq,and_true,true_and] at e';obtain ⟨rfl,rfl,rfl⟩:=e';obtain ⟨m0,m1,m2,m3,m4,m5⟩:=zt n5;have e9:ze wc b4 32 #[.int .i64 0,.int .i64 0,.int .i64 0,.slice none 0 0,.slice none 0 0,.slice none 0 0]:=r8.out.ext d6;obtain ⟨z0,z1,z2,z3,z4,z5⟩:=zt e9;have hfz:∀j,wc.frozen? ⟨b4,j,none⟩=false:=fun j=>e9.frozen j
  have r9:=zh e9;have l0:=zh f9;clear n5 q7 d6 e9 f9
  go_wp2_with fail
  refine case_fin (P:=fun W=>bodyPost Tryz.prog Tryz.f11 (OddPostN w (A+6) (100*Y) (K+20)) Exit.ret _ W) (g2:=b4) ?_ r9.out;intro WZ w0 a8 hk
  exact odqn_end rfl rfl w0
   ⟨_,m',ns',rfl,Below.trans (a5.out.trans s6.out) (a8.mono a4.out.2.2.1),t4.out.keepW (w':=WZ) (fun b hb i9=>hk b i9 (by have:=a4.out.2.2.2;omega)) (fun _ _=>trivial),l4.out,l0.out⟩
 rcases w4 with rfl | rfl | rfl | rfl | rfl | rfl | rfl | rfl
 ·have m0:w9.cell? ⟨b5,0,none⟩=some (.int .i64 m.w):=E.out.blk.cell (k:=0) rfl;have hf:∀j,w9.frozen? ⟨b5,j,none⟩=false:=fun j=>E.out.blk.frozen j
  have z9:IntKind.i64.wrap (m.w+n)=m.w+n:=by rw [zag];omega
  have D:=((E.out.setI 0 (m.w+n) rfl).more (K':=K+20) (by omega)).fin (A:=A+6) (Y:=100*Y) (by omega) (by omega) (by omega);have G:=zh D;clear D
  go_wp2_with fail
  go_meet;exact G.out
 ·have m0:w9.cell? ⟨b5,2,none⟩=some (.int .i64 m.l):=E.out.blk.cell (k:=2) rfl;have hf:∀j,w9.frozen? ⟨b5,j,none⟩=false:=fun j=>E.out.blk.frozen j
  have D:=((E.out.setI 2 n rfl).more (K':=K+20) (by omega)).fin (A:=A+6) (Y:=100*Y) (by omega) (by omega) (by omega);have G:=zh D;clear D
  go_wp2_with fail
  go_meet;exact G.out
 ·have m0:w9.cell? ⟨b5,1,none⟩=some (.int .i64 m.h):=E.out.blk.cell (k:=1) rfl;have hf:∀j,w9.frozen? ⟨b5,j,none⟩=false:=fun j=>E.out.blk.frozen j
  have z9:IntKind.i64.wrap (m.h*100)=m.h*100:=by rw [zag];omega
  have D:=((E.out.setI 1 (m.h*100) rfl).more (K':=K+20) (by omega)).fin (A:=A+6) (Y:=100*Y) (by omega) (by omega) (by omega);have G:=zh D;clear D
  go_wp2_with fail
  go_meet;exact G.out
 ·have g0:∀u∈m.up.map Value.bool,u.oneCell'=true:=by
   intro u hu;obtain ⟨_,_,rfl⟩:=zaA.1 hu;rfl
  go_wp2_with (at_builtin;refine AE rfl _ _ _ eBool rfl w9.heap.size 0 m.up.length [] _ _ _ rfl rfl (own_emptyT w9 w9.heap.size _ _ (Fy _)) (l8.out.below (a5.out.trans (J.alloc _))) g0 (by simp) (by unfold maxLen;omega) (by omega) ?_)
  intro v1 wa j1 n6 y7;clear y7;have n7:(w9.alloc (.cells #[] 4)).grownBy wa (some w9.heap.size):=n6;have h9:za w9 wa:=((za.refl w9).alloc _).grown n7 (by simp) (fun k hk=>by injection hk with hk;omega);have l3:=zh j1;have g3:=zh h9;obtain ⟨A1,c1,rfl,-⟩:=AS.of_own j1;have C8:za wA wa:=J.trans h9;clear n6 n7 j1 g0 h9
  go_wp2_with (at_builtin;refine AE (ok:=fun _=>True) rfl _ _ _ eBool rfl w9.heap.size m.up.length 1 _ [.bool true] _ _ rfl rfl (l3.out.alloc _) ⟨_,_,rfl,Fy _,Ba.block (ze.new _ _ _ rfl) trivial rfl⟩ (by simp [Value.oneCell']) (FA g3.out.size (by simp)) (by unfold maxLen;omega) (by omega) ?_)
  intro v2 wb j2 n8 y8;clear y8;have a8:za w9 wb:=(g3.out.alloc _).grown n8 (FA g3.out.size (by simp)) (fun k hk=>(l3.out.lt k hk).1);have f1:=(E.out.grow a8).more (K':=K+20) (by omega);have t5:Hid (Ck wb wA.heap.size v2 (m.up++[true])):=Ck.app (World.ownsRow.mono j2 J.size);obtain ⟨A2,c2,rfl,-⟩:=AS.of_own j2;have c4:wb.cell? ⟨b5,4,none⟩=some (.slice Au m.up.length cu):=f1.blk.cell (k:=4) rfl;have hf:∀j,wb.frozen? ⟨b5,j,none⟩=false:=fun j=>f1.blk.frozen j
  have D:=(f1.setU (by simp;omega) t5.out).fin (A:=A+6) (Y:=100*Y) (by omega) (by omega) (by omega);clear n8 j2 a8 f1;have G:=zh D;clear D
  go_wp2_with fail
  go_meet;exact G.out
 ·have m3:w9.cell? ⟨b5,3,none⟩=some (.slice AF m.free.length cF):=E.out.blk.cell (k:=3) rfl;rcases zav m.free.length with hz | hz
  ·have e6:decide ((0:Int)<(m.free.length:Int))=false:=FC (by omega);have e7:decide (0<m.free.length)=false:=FC (by omega);have D:=(E.out.more (K':=K+20) (by omega)).fin (A:=A+6) (Y:=100*Y) (by omega) (by omega) (by omega);clear hz;have G:=zh D;clear D
   go_wp2_with fail
   go_meet;exact G.out
  ·have e6:decide ((0:Int)<(m.free.length:Int))=true:=FB (by omega);have e7:decide (0<m.free.length)=true:=FB hz;obtain ⟨gF,cF',e,-,-⟩:=World.ownsRow.form E.out.F hz;injection e with e1 e2 e3;subst e1 e3;have f3:=Bq E.out.F;have C4:(1:Int)<=(m.free.length:Int):=by omega
   have C5:(1:Int)<=(cF:Int):=by omega
   have C6:(m.free.length:Int)<=(cF:Int):=by omega
   have hq4:1<cF\/cF=1:=by omega
   have hf:∀j,w9.frozen? ⟨b5,j,none⟩=false:=fun j=>E.out.blk.frozen j
   rcases hq4 with hq4 | hq4
   ·have D:=(E.out.more (K':=K+20) (by omega)).drop1 rfl hz (A:=A+6) (Y:=100*Y) (by omega) (by omega) (by omega);clear e2;have G:=zh D;clear D
    go_wp2_with fail
    go_meet;exact G.out
   ·subst hq4;have D:=(E.out.more (K':=K+20) (by omega)).drop0 (some ⟨gF,0,none⟩) 0 (A:=A+6) (Y:=100*Y) (by omega) (by omega) (by omega);clear e2;have G:=zh D;clear D
    go_wp2_with fail
    go_meet;exact G.out
 ·have m5:w9.cell? ⟨b5,5,none⟩=some (.slice AT m.tasks.length cT):=E.out.blk.cell (k:=5) rfl;rcases zav m.tasks.length with hz | hz
  ·have e6:decide ((0:Int)<(m.tasks.length:Int))=false:=FC (by omega);have e7:decide (0<m.tasks.length)=false:=FC (by omega);have D:=(E.out.more (K':=K+20) (by omega)).fin (A:=A+6) (Y:=100*Y) (by omega) (by omega) (by omega);clear hz;have G:=zh D;clear D
   go_wp2_with fail
   go_meet;exact G.out
  ·have e6:decide ((0:Int)<(m.tasks.length:Int))=true:=FB (by omega);have e7:decide (0<m.tasks.length)=true:=FB hz;obtain ⟨gT,cT',e,o4,-⟩:=World.ownsRow.form E.out.T hz;injection e with e1 e2 e3;subst e1 e3;clear e2;obtain ⟨o3,d8⟩:=E.out.T.lt gT rfl;have f3:=Bq E.out.T;obtain ⟨csT,c7⟩:=Es E.out.T;have x9:b5≠gT:=ze.ne_ E.out.blk c7 (by decide);have x6:b5<w9.heap.size:=zd E.out.blk;obtain ⟨s,u1,u2,t0,t1,t2,⟨l1,o9,f2⟩,⟨l2,p5,j9⟩,-⟩:=E.out.td 0 hz;have y3:(0:Int)<(m.tasks.length:Int):=by omega
   have a0:w9.cell? ⟨gT,1,none⟩=some u1:=(E.out.T.cellAt 1 (by omega)).trans t1;have b6:w9.cell? ⟨gT,2,none⟩=some u2:=(E.out.T.cellAt 2 (by omega)).trans t2;have d7:∀j,w9.frozen? ⟨gT,j,none⟩=false:=fun j=>E.out.T.frozenAt j
   have o8:zg w9 (fun _=>True) u1 l1:=by
    rcases f2 with h | h
    ·exact h.weaken fun _ _=>trivial
    ·exact zg.weaken (AS.of_own h) fun _ _=>trivial
   have t3:=zh o8;obtain ⟨Au1,cu1,rfl,-,-⟩:=o8;have g4:=zh d7;clear t0 t1 t2 f2 j9 b6 d7 c7
   go_wp2_with fail
   refine Cj fun Q' O b9=>?_;refine zB (S:=(fun W=>W.cell? ⟨b5,5,none⟩=some (.slice (some ⟨gT,0,none⟩) m.tasks.length cT)/\W.cell? ⟨gT,1,none⟩=some (.slice Au1 l1.length cu1))) zG (⟨m5,a0⟩) fun zH=>?_;refine AQ 0 O zH ?_;simp only [zc,Fv];refine AQ 1 O zH ?_;simp only [zc,Fv];refine AQ 2 O zH ?_;simp only [zc,Fv];refine AQ 4 O zH ?_;simp only [zc,Fv];refine AQ 5 O zH ?_;simp only [zc,Fv];refine AQ 6 O zH ?_;simp only [zc,Fv];refine AQ 7 O zH ?_;simp only [zc,Fv];refine AQ 8 O zH ?_;simp only [zc,Fv];refine EM 3 fun K I=>?_;go_simp;go_simp;refine zaJ I (⟨za.cell m5 ((za.refl w9).drew.alloc _),za.cell a0 ((za.refl w9).drew.alloc _)⟩) fun zH=>?_;clear I K;try simp only [zc,Fv]
   refine EM 9 fun K I=>?_;refine DC (ok:=fun _=>True) rfl _ _ _ eInt rfl w9.heap.size 1 l1.length [.int .i64 n] (l1.map (Value.int .i64)) _ _ rfl rfl (own_one w9.drew w9.heap.size 3 (.int .i64 n) (Fy _)) (zg.below t3.out ((za.refl w9).drew.alloc _)) intsOne (by simp) (by unfold maxLen;omega) (by omega) ?_;intro v9 wb d9 hg y9;clear y9;have o5:(w9.drew.alloc (.cells #[.int .i64 n] 3)).grownBy wb (some w9.heap.size):=hg;have a8:za w9 wb:=((za.refl w9).drew.alloc _).grown o5 (by simp) (fun k hk=>by injection hk with hk;omega);have a2:=zh a8
   have g7:Hid (zQ wb wA.heap.size v9 (n :: l1)):=by
    have:=World.ownsRow.mono d9 J.size;unfold zQ;show World.ownsRow _ _ _ _ _ (l1.length+1) _;rw [Nat.add_comm];exact this
   obtain ⟨A9,c9,rfl,-⟩:=AS.of_own d9;clear d9 hg o5 a8;refine zaJ I (⟨a2.out.cell m5,a2.out.cell a0⟩) fun zH=>?_;clear I K;try simp only [zc,Fv]
   refine AQ 10 O zH ?_;simp only [zc,Fv];refine AQ 11 O zH ?_;simp only [zc,Fv];refine rlZ 12 fun K I=>?_;go_simp;have j7:wb.cell? ⟨gT,1,none⟩=some (.slice Au1 l1.length cu1):=a2.out.cell a0;have j8:wb.frozen? ⟨gT,1,none⟩=false:=(zaj (a:=⟨gT,1,none⟩) (a2.out.block gT d8)).trans (g4.out 1);go_simp;refine I.out _ _ ?_;clear I K;refine zP (by kernel_rfl) ?_ _;subst b9
   have D:OdSn wA (wb.setCell ⟨gT,1,none⟩ (.slice A9 (1+l1.length) c9)) b5 (A+6) (100*Y) (K+20):=by
    have h1:=((E.out.grow a2.out).more (K':=K+20) (by omega)).setT (j:=0) (r:=1) rfl hz (.inl rfl) (x:=(.slice A9 (1+l1.length) c9)) ⟨n :: l1,by simp;omega,.inr g7.out⟩;rw [show 0*3+1=1 from rfl] at h1;exact h1.fin (by omega) (by omega) (by omega)
   clear zH m5 j7 j8 a0;have G:=zh D;clear D
   go_wp2_with fail
   go_meet;exact G.out
 ·have m5:w9.cell? ⟨b5,5,none⟩=some (.slice AT m.tasks.length cT):=E.out.blk.cell (k:=5) rfl;rcases zav m.tasks.length with hz | hz
  ·have e6:decide ((0:Int)<(m.tasks.length:Int))=false:=FC (by omega);have e7:decide (0<m.tasks.length)=false:=FC (by omega);have D:=(E.out.more (K':=K+20) (by omega)).fin (A:=A+6) (Y:=100*Y) (by omega) (by omega) (by omega);clear hz;have G:=zh D;clear D
   go_wp2_with fail
   go_meet;exact G.out
  ·have e6:decide ((0:Int)<(m.tasks.length:Int))=true:=FB (by omega);have e7:decide (0<m.tasks.length)=true:=FB hz;obtain ⟨gT,cT',e,o4,-⟩:=World.ownsRow.form E.out.T hz;injection e with e1 e2 e3;subst e1 e3;clear e2;obtain ⟨o3,d8⟩:=E.out.T.lt gT rfl;have f3:=Bq E.out.T;obtain ⟨csT,c7⟩:=Es E.out.T;have x9:b5≠gT:=ze.ne_ E.out.blk c7 (by decide);have x6:b5<w9.heap.size:=zd E.out.blk;obtain ⟨s,u1,u2,t0,t1,t2,⟨l1,o9,f2⟩,⟨l2,p5,j9⟩,-⟩:=E.out.td 0 hz;have y3:(0:Int)<(m.tasks.length:Int):=by omega
   have a0:w9.cell? ⟨gT,1,none⟩=some u1:=(E.out.T.cellAt 1 (by omega)).trans t1;have b6:w9.cell? ⟨gT,2,none⟩=some u2:=(E.out.T.cellAt 2 (by omega)).trans t2;have d7:∀j,w9.frozen? ⟨gT,j,none⟩=false:=fun j=>E.out.T.frozenAt j
   have g4:=zh d7;have s9:=zh b6;clear t0 t1 t2 f2 j9 a0 b6 d7 c7;have e0:=prodB ⟨r5,r6⟩ ⟨o6,o7⟩ hA0 b7;have j3:=prodB e0 ⟨p6,p7⟩ (Int.mul_nonneg hA0 b7) hA0
   have e4:A*Y<=100000:=by
    have:=Int.mul_le_mul hA1 n3 b7 (by omega);omega
   have j4:A*Y*A<=10000000:=by
    have:=Int.mul_le_mul e4 hA1 hA0 (by omega);omega
   have g5:Hid (∀W,Calls Tryz.prog 41 #[.agg #[.int .i64 m.w,.int .i64 m.h,.int .i64 m.l,.slice Af m.free.length cf,.slice Au m.up.length cu,.slice At m.tasks.length ct]] W fun e w'=>e=.returned (.int .i64 (m.w*m.h*m.l))/\Below W.heap.size W w'):=fun W=>AB m.w m.h m.l _ _ _ W (by omega) (by omega)
   have C3:IntKind.i64.wrap (m.w*m.h*m.l+n)=m.w*m.h*m.l+n:=by rw [zag];omega
   clear e0 j3 e4 j4
   go_wp2_with fail
   refine Cj fun Q' O b9=>?_;refine zB (S:=(fun W=>za wA W/\W.cell? ⟨b5,5,none⟩=some (.slice (some ⟨gT,0,none⟩) m.tasks.length cT))) zG (⟨J.drew,m5⟩) fun zH=>?_;refine AQ 0 O zH ?_;simp only [zc,Fv];refine AQ 1 O zH ?_;simp only [zc,Fv];refine AQ 2 O zH ?_;simp only [zc,Fv];refine AQ 4 O zH ?_;simp only [zc,Fv];refine EM 3 fun K I=>?_;go_simp;go_at_call 41;refine (g5.out _).mono ?_;rintro e wn ⟨rfl,d5⟩;have n0:za w9 wn:=Below.trans (za.refl w9).drew d5;have Q:=zh n0;clear d5 n0;go_simp;refine zaJ I (⟨J.trans Q.out,Q.out.cell m5⟩) fun zH=>?_;clear I K;try simp only [zc,Fv]
   refine AQ 5 O zH ?_;simp only [zc,Fv];refine EM 6 fun K I=>?_;go_simp;go_simp;refine zaJ I (⟨zH.1.alloc _,za.cell zH.2 ((za.refl wn).alloc _)⟩) fun zH=>?_;clear I K;try simp only [zc,Fv]
   have a2:Hid (za w9 (wn.alloc (.cells #[.int .i64 (m.w*m.h*m.l+n)] 3))):=Q.out.alloc _;have g7:Hid (zQ (wn.alloc (.cells #[.int .i64 (m.w*m.h*m.l+n)] 3)) wA.heap.size (.slice (some ⟨wn.heap.size,0,none⟩) 1 1) [m.w*m.h*m.l+n]):=own_one wn wA.heap.size 3 _ (FA J.size Q.out.size);generalize z8:wn.alloc (.cells #[.int .i64 (m.w*m.h*m.l+n)] 3)=wb at*;generalize wn.heap.size=gn at*;clear z8;refine AQ 7 O zH ?_;simp only [zc,Fv];refine AQ 8 O zH ?_;simp only [zc,Fv];refine rlZ 9 fun K I=>?_;go_simp;have j7:wb.cell? ⟨gT,2,none⟩=some u2:=a2.out.cell s9.out;have j8:wb.frozen? ⟨gT,2,none⟩=false:=(zaj (a:=⟨gT,2,none⟩) (a2.out.block gT d8)).trans (g4.out 2);go_simp;refine I.out _ _ ?_;clear I K;refine zP (by kernel_rfl) ?_ _;subst b9
   have D:OdSn wA (wb.setCell ⟨gT,2,none⟩ (.slice (some ⟨gn,0,none⟩) 1 1)) b5 (A+6) (100*Y) (K+20):=by
    have h1:=((E.out.grow a2.out).more (K':=K+20) (by omega)).setT (j:=0) (r:=2) rfl hz (.inr rfl) (x:=(.slice (some ⟨gn,0,none⟩) 1 1)) ⟨_,by simp,.inr g7.out⟩;rw [show 0*3+2=2 from rfl] at h1;exact h1.fin (by omega) (by omega) (by omega)
   clear zH m5 j7 j8;have G:=zh D;clear D
   go_wp2_with fail
   go_meet;exact G.out
 ·have H0:Hid (Fq wA w9 wA.heap.size b5 m.free.length m.tasks.length (K+20) m.w m.h m.l (.slice AF m.free.length cF) (.slice Au m.up.length cu) (.slice AT m.tasks.length cT) vsf vst):=E.out.more (by omega);have e0:=prodB ⟨r5,r6⟩ ⟨o6,o7⟩ hA0 b7;have j3:=prodB e0 ⟨p6,p7⟩ (Int.mul_nonneg hA0 b7) hA0
  have e4:A*Y<=100000:=by
   have:=Int.mul_le_mul hA1 n3 b7 (by omega);omega
  have j4:A*Y*A<=10000000:=by
   have:=Int.mul_le_mul e4 hA1 hA0 (by omega);omega
  have g5:Hid (∀W,Calls Tryz.prog 41 #[.agg #[.int .i64 m.w,.int .i64 m.h,.int .i64 m.l,.slice Af m.free.length cf,.slice Au m.up.length cu,.slice At m.tasks.length ct]] W fun e w'=>e=.returned (.int .i64 (m.w*m.h*m.l))/\Below W.heap.size W w'):=fun W=>AB m.w m.h m.l _ _ _ W (by omega) (by omega)
  clear e0 j3 e4 j4 E J
  go_wp2_with fail
  go_loopg [7] 8 (fun gk v wr=>∃(k nF nT:Nat) (vF vT:Value) (fs ts:List Value),v=.int .i64 k/\k<=8/\gk=8 - k/\nF<=K+k/\nT<=K+k/\Hid (Fq wA wr wA.heap.size b5 nF nT (K+20) m.w m.h m.l vF (.slice Au m.up.length cu) vT fs ts))
  case atStart=>exact ⟨0,_,_,_,_,_,_,rfl,by omega,rfl,by omega,by omega,H0.out⟩
  clear H0
  case round=>
   obtain ⟨k,nF,nT,vF,vT,fs,ts,rfl,B9,rfl,C0,C1,hQ⟩:=hrel;obtain ⟨wr9,rfl⟩:∃wr9:World,wr9=wr:=⟨_,rfl⟩;have B0:IntKind.i64.wrap (4+n)=4+n:=by rw [zag];omega
   rcases Int.lt_or_le (k:Int) (4+n) with i9 | hge
   ·have w3:decide ((k:Int)<4+n)=true:=FB i9;have J:za wA wr9:=hQ.out.ext;have c5:wr9.cell? ⟨b5,5,none⟩=some vT:=hQ.out.blk.cell (k:=5) rfl;obtain ⟨AT2,cT2,rfl,-⟩:=AS.of_own hQ.out.T
    go_wp2_with (at_builtin;refine AE (ok:=fun _=>True) rfl _ _ _ eTask rfl wA.heap.size nT 1 ts [.string ⟨#[]⟩,.slice none 0 0,.slice none 0 0] _ _ rfl rfl (hQ.out.T.alloc _) (row3 wr9 _ _ _ _) (by simp [Value.oneCell']) (FA J.size (by simp)) (by unfold maxLen;omega) (by omega) ?_)
    intro vT' w5 b0 a7 z7;clear z7
    have n2:=hQ.out.addT b0 a7 (by omega) (fun w2 hk hs j hj=>by
     have A7:ts.length=nT*3:=hQ.out.T.1;rcases zah j nT with h1 | h1
     ·obtain ⟨s,u1,u2,h2,h3,h4,h5,h6,h7⟩:=hQ.out.td.keep hk j h1;exact ⟨s,u1,u2,by rw [FD (by omega)];exact h2,by rw [FD (by omega)];exact h3,by rw [FD (by omega)];exact h4,h5,h6,h7⟩
     ·obtain rfl:j=nT:=by omega
      exact ⟨⟨#[]⟩,.slice none 0 0,.slice none 0 0,by rw [FE (by omega),show j*3 - ts.length=0 from by omega];rfl,by rw [FE (by omega),show j*3+1 - ts.length=1 from by omega];rfl,by rw [FE (by omega),show j*3+2 - ts.length=2 from by omega];rfl,⟨[],FN _,.inl (zg.nil _ _)⟩,⟨[],FN _,.inl (zg.nil _ _)⟩,FN _⟩)
    have V:w5.heap[b5]?=wr9.heap[b5]?:=(a7.block b5 (by have:=zd hQ.out.blk;simp;omega) (fun e=>zn hQ.out.T hQ.out.blk (by decide) e.symm)).trans (zad _ _ _ (zd hQ.out.blk));have c5':w5.cell? ⟨b5,5,none⟩=some (.slice AT2 nT cT2):=(zaa (a:=⟨b5,5,none⟩) V).trans c5;have f5':w5.frozen? ⟨b5,5,none⟩=false:=(zaj (a:=⟨b5,5,none⟩) V).trans (hQ.out.blk.frozen 5);have U:=zh n2;obtain ⟨AT3,cT3,rfl,-⟩:=AS.of_own b0;clear n2 b0 a7 V c5;go_upto_region 28 with fail;clear c5' f5';generalize w5.setCell ⟨b5,5,none⟩ (.slice AT3 (nT+1) cT3)=wq at*;have k7:za wA wq:=U.out.ext;have c3:wq.cell? ⟨b5,3,none⟩=some vF:=U.out.blk.cell (k:=3) rfl;have x0:wq.frozen? ⟨b5,3,none⟩=false:=U.out.blk.frozen 3;obtain ⟨AF2,cF2,rfl,-⟩:=AS.of_own U.out.F;clear J;obtain ⟨N,hN⟩:∃N:Nat,(N:Int)=min 300 (max 0 (m.w*m.h*m.l)):=⟨(min 300 (max 0 (m.w*m.h*m.l))).toNat,by omega⟩;have B3:N<=300:=by omega
    have x8:∀W:World,(Instr.makeSlice 29 (.int .i64 (min 300 (max 0 (m.w*m.h*m.l)))) (.int .i64 (min 300 (max 0 (m.w*m.h*m.l))))).run Tryz.prog W=.ok (.slice (some ⟨W.heap.size,0,none⟩) N N) (W.alloc (.cells (madeCells #[.bool false] N) 4)):=fun W=>by
     rw [<-hN];exact run_make_row' 29 4 (.bool false) 1 Tryz.underlying29 Tryz.infoBool rfl .i64 .i64 N (by omega) (by omega) W
    have HN:=zh hN;clear hN
    go_wp2_with fail
    refine Cj fun Q' O b9=>?_;refine zB (S:=(fun W=>za wA W/\W.cell? ⟨b5,3,none⟩=some (.slice AF2 nF cF2))) zG (⟨k7.drew,c3⟩) fun zH=>?_;refine AQ 0 O zH ?_;simp only [zc,Fv];refine AQ 1 O zH ?_;simp only [zc,Fv];refine AQ 2 O zH ?_;simp only [zc,Fv];refine EM 3 fun K I=>?_;go_simp;go_at_call 41;refine (g5.out _).mono ?_;rintro e wn ⟨rfl,d5⟩;have Q:Hid (za wq wn):=za.trans (za.refl wq).drew d5;clear d5;go_simp;refine zaJ I (⟨k7.trans Q.out,Q.out.cell c3⟩) fun zH=>?_;clear I K;try simp only [zc,Fv]
    refine AQ 4 O zH ?_;simp only [zc,Fv];refine AQ 5 O zH ?_;simp only [zc,Fv];refine EM 6 fun K I=>?_;go_simp;go_simp;refine zaJ I (⟨zH.1.alloc _,(Q.out.alloc _).cell c3⟩) fun zH=>?_;clear I K;try simp only [zc,Fv]
    obtain ⟨g6,i7⟩:∃g,g=wn.heap.size:=⟨_,rfl⟩;have M:Hid (Fq wA (wn.alloc (.cells (madeCells #[.bool false] N) 4)) wA.heap.size b5 nF (nT+1) (K+20) m.w m.h m.l (.slice AF2 nF cF2) (.slice Au m.up.length cu) (.slice AT3 (nT+1) cT3) fs (ts++[.string ⟨#[]⟩,.slice none 0 0,.slice none 0 0])/\Ck (wn.alloc (.cells (madeCells #[.bool false] N) 4)) wA.heap.size (.slice (some ⟨g6,0,none⟩) N N) (List.replicate N false)):=⟨U.out.grow (Q.out.alloc _),by rw [i7];exact own_made wn wA.heap.size N (FA k7.size Q.out.size) (by omega)⟩;have s7:Hid (za wq (wn.alloc (.cells (madeCells #[.bool false] N) 4))):=Q.out.alloc _;rw [<-i7];clear i7;generalize wn.alloc _=wm at*;refine EM 7 fun K I=>?_;go_simp;go_simp;refine zaJ I (⟨zH.1.alloc _,(s7.out.alloc _).cell c3⟩) fun zH=>?_;clear I K;try simp only [zc,Fv]
    refine EM 8 fun K I=>?_;refine DC (ok:=fun _=>True) rfl _ _ _ eBools rfl wA.heap.size nF 1 fs [.slice (some ⟨g6,0,none⟩) N N] _ _ rfl rfl ((M.out.1.F).alloc _) ⟨_,_,rfl,Fy _,Ba.block (ze.new _ _ _ rfl) trivial rfl⟩ (by simp [Value.oneCell']) (FA M.out.1.ext.size (by simp)) (by unfold maxLen;omega) (by omega) ?_;intro vF9 w9 a9 a1 z6;clear z6
    have b8:=M.out.1.addF a9 a1 (by omega) (fun w2 hk hs u hu=>by
     rw [zar] at hu;subst hu;exact OFI.keep ⟨_,.inr M.out.2⟩ hk)
    have E:=zh b8;have V:w9.heap[b5]?=wm.heap[b5]?:=(a1.block b5 (by have:=zd M.out.1.blk;simp;omega) (fun e=>zn M.out.1.F M.out.1.blk (by decide) e.symm)).trans (zad _ _ _ (zd M.out.1.blk));have c39:w9.cell? ⟨b5,3,none⟩=some (.slice AF2 nF cF2):=(zaa (a:=⟨b5,3,none⟩) V).trans (M.out.1.blk.cell (k:=3) rfl);have f39:w9.frozen? ⟨b5,3,none⟩=false:=(zaj (a:=⟨b5,3,none⟩) V).trans (M.out.1.blk.frozen 3);have J:za wA w9:=(M.out.1.ext.alloc _).grown a1 (FA M.out.1.ext.size (by simp)) (fun k hk=>(M.out.1.F.lt k hk).1);obtain ⟨AF9,cF9,rfl,-⟩:=AS.of_own a9;have v6:=zh J;clear b8 a9 a1 V J;refine zaJ I (⟨v6.out,c39⟩) fun zH=>?_;clear I K;try simp only [zc,Fv]
    refine AQ 9 O zH ?_;simp only [zc,Fv];refine rlZ 10 fun K I=>?_;go_simp;go_simp;refine I.out _ _ ?_;clear I K;refine zP (by kernel_rfl) ?_ _;subst b9;clear zH c39 f39 c3 x0 x8
    go_wp2_with fail
    go_roundg (8 - (k+1))
    case measure=>omega
    case rel=>exact ⟨k+1,nF+1,nT+1,_,_,_,_,by go_num,by omega,rfl,by omega,by omega,E.out⟩
   ·have w3:decide ((k:Int)<4+n)=false:=FC (by omega);have D:=hQ.out.fin (A:=A+6) (Y:=100*Y) (by omega) (by omega) (by omega);have J:=hQ.out.ext;clear hQ;have G:=zh D;clear D
    go_wp2_with fail
    go_meet;exact G.out
end
section
open Go.RowKit Go.Shelf
attribute [local go_sem ↓] Go.wp_at_zero Go.wp_at_succ
attribute [local go_sem] Oper.semAt_some
theorem MadeM.obT (h:MadeM m):OB m 4 4 16:=by
 have D:=h.good;have G:2<=m.w*m.h*m.l/\m.w*m.h*m.l<=16:=h.n;have I:=h.w;have hh:=h.h;have E:=h.l;have ht:=h.tk;refine ⟨by omega,by omega,by omega,by rw [D.fl];omega,?_,by omega,fun t ht=>?_⟩
 ·have:=D.dim.up;omega
 ·have:=(h.te t ht).2;omega
theorem OB.small {K:Nat} (h:OB m A Y K) (M:K<=1000) (G:AV m=0) (I:ns.length=m.tasks.length) (D:∀s∈ns,s.size<=K):CP m ns:=by
 have g:=zZ.of G;have d:=g.dim;have w1:=d.w1;have w2:=d.w2;have h1:=d.h1;have h2:=d.h2;have l1:=d.l1;have l2:=d.l2;have n1:=d.n1;have up:=d.up;have tk:=g.tk;have fl:=g.fl;have e:m.n=m.w*m.h*m.l:=rfl;refine ⟨by omega,by omega,by omega,by omega,I,fun x E=>?_,fun s J=>by have:=D s J;omega,by omega,fun f hf=>?_,by omega⟩
 ·have h1:=h.te x E;refine ⟨by omega,by omega,fun n D=>?_⟩;have:=g.tn x E n D;exact ⟨by omega,by omega⟩
 ·have:=g.fn f hf;omega
theorem small_str {s:ByteArray} (h:s.size<=1):s.size<=16:=by omega
theorem jmazes_calls (HQ:MakeQA) {v vl:Value} {ls:List (List Int)} {bs:List (Nat×Nat)} {raw:List UInt8} (o0 o1 o2 y:Int) (w:World) (hv:zv w) (hl:zU w ok v ls) (k8:ls.length<=9223372036854775807) (f0:∀x∈ls,x.length<=9223372036854775807)
  (hb:CutsV w vl bs) (i1:bs.length<=9223372036854775807) (hi:raw.length<=9223372036854775807) (hy:-128<=y/\y<128):
  Calls Tryz.prog 6 #[v,.agg #[.int .i64 o0,.int .i64 o1,.int .i64 o2],vl,.string ⟨raw.toArray⟩,.int .i8 y] w fun e w'=>e=.returned (.bool true)/\za w w':=by
 have a7:=zh hl;have g3:=zh f0;have HV:=zh hv;have a5:=zh hb;have d6:=zh HQ;obtain ⟨_,⟨A,c,rfl,k5,-⟩,-⟩:=_root_.id hl;obtain ⟨Ap,cp,rfl,-⟩:=hb;obtain ⟨N,hN⟩:=zaI (min ls.length 4);have HN:=zh hN;have e8:N<=ls.length:=by omega
 have h9:N<=4:=by omega
 have f1:min (ls.length:Int) 4=(N:Int):=by omega
 obtain ⟨n,hn⟩:∃n:Int,n=min y 60:=⟨_,rfl⟩;have l3:IntKind.i64.wrap y=y:=by rw [zag];omega
 have l2:min y 60=n:=hn.symm;have c9:Hid (-1000<=n/\n<=1000):=by (show _/\_);omega
 obtain ⟨M,hM⟩:∃M:Nat,(M:Int)=min (raw.length:Int) 200:=⟨(min (raw.length:Int) 200).toNat,by omega⟩;have j8:M<=raw.length:=by omega
 have i3:min (raw.length:Int) 200=(M:Int):=hM.symm;obtain ⟨X2,b2⟩:∃X,X=raw.take M:=⟨_,rfl⟩;have e0:Hid (X2.length<=200):=by (show _<=_);rw [b2,za3];omega
 have e2:ByteArray.extract ⟨raw.toArray⟩ 0 M=⟨X2.toArray⟩:=by rw [Cl,b2]
 clear hN f0 hv hl HQ hy hn hM b2 hi
 go_enter Tryz.func6,Tryz.ntmps6
 go_upto_region 1 with fail;have V:=ze.new w #[.int .i64 o0,.int .i64 o1,.int .i64 o2] 24 (g:=w.heap.size) rfl;have E:za w (w.alloc (.cells #[.int .i64 o0,.int .i64 o1,.int .i64 o2] 24)):=(za.refl w).alloc _;generalize w.alloc _=w0 at V E⊢;generalize w.heap.size=gc at V⊢;have a4:=zh V;have f9:=zh E;have a7:=zh (a7.out.below E);have HV:=zh (HV.out.ext E);have a5:=zh (a5.out.ext E);clear V E
 go_wp2_with fail
 refine (zsanity_calls w0 HV.out).mono ?_;rintro e w1 ⟨rfl,e1⟩;have c8:=zh e1;clear e1
 go_wp2_with fail
 refine (madeN_calls w1 (pref_intss (a7.out.below c8.out) e8) (by rw [za3];omega) (fun x hx=>g3.out x (List.mem_of_mem_take hx))).mono ?_;rintro e w2 ⟨v2,m,ns,rfl,e3,hm,b1,b6⟩;have HM:=zh hm;have a8:=zh b1;have f2:ns.length=m.tasks.length:=by obtain ⟨_,_,_,-,-,-,h,-⟩:=hm;exact h
 have g8:Hid (CP m ns):=b1.small f2 b6;obtain ⟨f,u,t,rfl,⟨_,⟨Af,cf,rfl,-,-⟩,-⟩,⟨Au,cu,rfl,-,-⟩,⟨-,_,⟨At,ct,rfl,-,-⟩,-⟩⟩:=hm;have g0:Hid (za w0 w2):=c8.out.trans e3;have g5:=zh b6;clear e3 b1 b6 f2 f1 e8 h9;go_upto_region 3 with fail;obtain ⟨J,r0,r1,r2,r3,r4,r5⟩:=CO w2 m Af cf Au cu At ct;simp only [Fr] at J r0 r1 r2 r3 r4 r5;generalize w2.alloc _=w3 at J r0 r1 r2 r3 r4 r5⊢;generalize w2.heap.size=gm at r0 r1 r2 r3 r4 r5⊢;have U:Hid (za w0 w3):=g0.out.trans J;have HG:Hid (zZ m):=a8.out.good;have f8:Hid (AV m=0):=good_chk HG.out;have a6:Hid (Lens m):=a8.out.lens;have HJ:Hid (JP w3 _ _ m ns):=⟨HM.out.below J,a6.out,fun _=>g8.out⟩;have a1:∀s∈ns,s.size<=16:=fun s hs=>small_str (g5.out s hs)
 have d5:Hid (Calls Tryz.prog 11 #[.agg #[.int .i64 m.w,.int .i64 m.h,.int .i64 m.l,.slice Af m.free.length cf,.slice Au m.up.length cu,.slice At m.tasks.length ct],.agg #[.int .i64 o0,.int .i64 o1,.int .i64 o2]] w3 (OddPostN w3 10 400 36)):=oddN_calls (A:=4) (Y:=4) (K:=16) o0 o1 o2 w3 HJ.out.hm a1 a8.out.obT (by omega) (by omega) (by omega);have i4:za w3 w3:=za.refl w3;have c0:=za.rule ((a4.out.ext U.out).cell (k:=0) rfl);have c1:=za.rule ((a4.out.ext U.out).cell (k:=1) rfl);have c2:=za.rule ((a4.out.ext U.out).cell (k:=2) rfl);clear J a1
 go_wp2_with fail
 refine d5.out.mono ?_;rintro e w4 ⟨v4,m',ns',rfl,e4,b4,b7,a3⟩;have g4:=zh b4;have a2:ns'.length=m'.tasks.length:=by obtain ⟨_,_,_,-,-,-,h,-⟩:=b4;exact h
 have G:Hid (Lens m'):=b7.lens (by omega);have d7:Hid (AV m'=0->CP m' ns'):=fun hc=>b7.small (by omega) hc a2 a3
 obtain ⟨f',u',t',rfl,⟨_,⟨Bf,df,rfl,-,-⟩,-⟩,⟨Bu,du,rfl,-,-⟩,⟨-,_,⟨Bt,dt,rfl,-,-⟩,-⟩⟩:=b4;have f3:za w3 w4:=e4;clear e4 b7 a3 a2 i4 d5 c0 c1 c2;go_upto_region 4 with fail;obtain ⟨O,s0,s1,s2,s3,s4,s5⟩:=CO w4 m' Bf df Bu du Bt dt;simp only [Fr] at O s0 s1 s2 s3 s4 s5;generalize w4.alloc _=w5 at O s0 s1 s2 s3 s4 s5⊢;generalize w4.heap.size=go at s0 s1 s2 s3 s4 s5⊢;have D:Hid (za w3 w5):=f3.trans O;have r0:=fun W h=>r0 W (D.out.trans h)
 have r1:=fun W h=>r1 W (D.out.trans h)
 have r2:=fun W h=>r2 W (D.out.trans h)
 have r3:=fun W h=>r3 W (D.out.trans h)
 have r4:=fun W h=>r4 W (D.out.trans h)
 have r5:=fun W h=>r5 W (D.out.trans h)
 have Q:Hid (JP w5 _ _ m ns):=HJ.out.below D.out;have I:Hid (JP w5 _ _ m' ns'):=⟨g4.out.below O,G.out,d7.out⟩;have b0:Hid (za w0 w5):=U.out.trans D.out;have a9:=zh (HV.out.ext b0.out);have f7:=zh (a5.out.ext b0.out);obtain ⟨H,hH⟩:=zaI (if AV m'=0 then zx (BB (zr m' ns')) else [])
 obtain ⟨ck,b3⟩:∃c,c=AV m':=⟨_,rfl⟩
 have g1:Hid (H.length<=1000):=by
  (show _<=_)
  rw [hH]
  split
  ·have h1:=Bv (s:=BJ) (by decide);have h4:(BB (zr m' ns')).length=8:=Aw _;have h2:=Bv (s:=BB (zr m' ns')) (by omega);have h3:BJ.length=5:=rfl;show (wT BJ++wT (BB (zr m' ns'))).length<=_;rw [FG];omega
  ·simp
 have d9:Hid (∀W,za w5 W->Calls Tryz.prog 27 #[.agg #[.int .i64 m.w,.int .i64 m.h,.int .i64 m.l,.slice Af m.free.length cf,.slice Au m.up.length cu,.slice At m.tasks.length ct],.slice Ap bs.length cp] W fun e w'=>∃t:List UInt8,e=.returned (.string ⟨t.toArray⟩)/\za W w'/\t.length<=5000000):=fun W hW=>Fp W (Q.out.below hW) f8.out (f7.out.ext hW) i1
 have c7:Hid (∀W,za w5 W->Calls Tryz.prog 28 #[.agg #[.int .i64 m'.w,.int .i64 m'.h,.int .i64 m'.l,.slice Bf m'.free.length df,.slice Bu m'.up.length du,.slice Bt m'.tasks.length dt]] W fun e w'=>e=.returned (.tuple #[.string ⟨H.toArray⟩,.int .i64 ck])/\za W w'):=fun W hW=>by
  rw [hH,b3];exact jBeginT_calls W (a9.out.ext hW) (I.out.below hW)
 have c6:Hid (∀W,za w5 W->Calls Tryz.prog 29 #[.agg #[.int .i64 m'.w,.int .i64 m'.h,.int .i64 m'.l,.slice Bf m'.free.length df,.slice Bu m'.up.length du,.slice Bt m'.tasks.length dt]] W fun e w'=>e=.returned (.tuple #[.string ⟨H.toArray⟩,.int .i64 ck])/\za W w'):=fun W hW=>by
  rw [hH,b3];exact Ei W (I.out.below hW)
 have g6:Hid (∀(S:List UInt8),S.length<=30000000->∀W,za w5 W->Calls Tryz.prog 30 #[.agg #[.int .i64 m.w,.int .i64 m.h,.int .i64 m.l,.slice Af m.free.length cf,.slice Au m.up.length cu,.slice At m.tasks.length ct],.string ⟨S.toArray⟩,.int .i64 n] W fun e w'=>e=.returned (.bool true)/\za W w'):=fun S hS W hW=>
  Fo n W (a9.out.ext hW) (Q.out.below hW) hS c9.out (fun W' h=>Fd W' ((Q.out.below (hW.trans h)).hm.maze) a6.out) (d6.out W _ _ m (Q.out.below hW).hm.maze a6.out)
 have d8:Hid (∀(S:List UInt8),S.length<=30000000->∀W,za w5 W->Calls Tryz.prog 30 #[.agg #[.int .i64 m'.w,.int .i64 m'.h,.int .i64 m'.l,.slice Bf m'.free.length df,.slice Bu m'.up.length du,.slice Bt m'.tasks.length dt],.string ⟨S.toArray⟩,.int .i64 n] W fun e w'=>e=.returned (.bool true)/\za W w'):=fun S hS W hW=>
  Fo n W (a9.out.ext hW) (I.out.below hW) hS c9.out (fun W' h=>Fd W' ((I.out.below (hW.trans h)).hm.maze) G.out) (d6.out W _ _ m' (I.out.below hW).hm.maze G.out)
 have f4:za w5 w5:=za.refl w5;clear O hH b3 f3
 go_wp2_with fail
 refine (c7.out _ f4).mono ?_;rintro e w6 ⟨rfl,e5⟩;have b8:za w5 w6:=e5;clear e5 f4 c7
 go_wp2_with fail
 refine (c6.out _ b8).mono ?_;rintro e w7 ⟨rfl,e6⟩;have b9:za w5 w7:=b8.trans e6;clear e6 b8 c6
 go_wp2_with fail
 refine (d9.out _ b9).mono ?_;rintro e w8 ⟨S,rfl,e7,e9⟩;have g7:=zh e9;have i5:za w5 w8:=b9.trans e7;have g9:=zh i5;have j7:(H.toArray==H.toArray)=true:=by simp
 have k7:(ck==ck)=true:=by simp
 clear e7 e9 b9 d9;go_upto_region 8 with fail;refine zab (S:=(fun W=>za w5 W)) zG (g9.out.drew) fun zH=>?_;generalize w8.drew=wd at zH⊢;refine zi 0 zH ?_;refine zi 1 zH ?_;simp only [zc,Fv];refine zi 2 zH ?_;refine zi 3 zH ?_;simp only [zc,Fv];refine zi 4 zH ?_;refine zi 5 zH ?_;simp only [zc,Fv];refine zi 6 zH ?_;refine zi 7 zH ?_;simp only [zc,Fv];refine zi 8 zH ?_;refine zi 9 zH ?_;simp only [zc,Fv];refine zi 10 zH ?_;refine zi 11 zH ?_;simp only [zc,Fv];refine zi 12 zH ?_;refine zi 13 zH ?_;simp only [zc,Fv];refine zi 14 zH ?_;simp only [zc,Fv];refine BO 15 fun K hK=>?_;go_simp;go_at_call 30;refine (d8.out S (by have:=g7.out;omega) _ zH).mono ?_;rintro e w9 ⟨rfl,h6⟩;go_simp;refine zaJ hK (zH.trans h6) fun zH=>?_;clear hK K;try simp only [zc,Fv]
 refine zi 16 zH ?_;refine zi 17 zH ?_;simp only [zc,Fv];refine zi 18 zH ?_;refine zi 19 zH ?_;simp only [zc,Fv];refine zi 20 zH ?_;simp only [zc,Fv];refine BO 21 fun K hK=>?_;go_simp;go_at_call 30;refine (d8.out H (by have:=g1.out;omega) _ zH).mono ?_;rintro e wA ⟨rfl,h7⟩;go_simp;refine zaJ hK (zH.trans h7) fun zH=>?_;clear hK K;try simp only [zc,Fv]
 refine zi 22 zH ?_;refine zi 23 zH ?_;simp only [zc,Fv];refine zi 24 zH ?_;refine zi 25 zH ?_;simp only [zc,Fv];refine zi 26 zH ?_;refine zi 27 zH ?_;simp only [zc,Fv];refine zi 28 zH ?_;refine zi 29 zH ?_;simp only [zc,Fv];refine zi 30 zH ?_;simp only [zc,Fv];refine BO 31 fun K hK=>?_;go_simp;go_at_call 30;refine (g6.out X2 (by have:=e0.out;omega) _ zH).mono ?_;rintro e wB ⟨rfl,h8⟩;go_simp;refine zaJ hK (zH.trans h8) fun zH=>?_;clear hK K;try simp only [zc,Fv]
 refine zi 32 zH ?_;refine zi 33 zH ?_;simp only [zc,Fv];refine zao (by kernel_rfl) ?_ _;have h5:=zh zH;clear zH
 go_wp2_with fail
 go_ret;exact ⟨rfl,f9.out.trans (b0.out.trans h5.out)⟩
end
section
open Go.ChangeShapes Go.WideShapes Go.ChangeAt Go.RowKit
section
variable {H:Type} {enc:TypeId×Value->H} {base:Nat} {v v0 v1 v2 v3 v4:Value} {d d0 d1 d2 d3 d4:DataW H} {p p0 p1 p2 p3 p4:List MemPlace} {W:World}
theorem journalMazes_walk (W:World) (M:zv W) (D:Value.okWide Tryz.prog W .any base 22 v0) (h0:DataW.Trod enc Tryz.prog W 0 (fun _=>true) true 22 v0 d0 p0)
  (E:Value.okWide Tryz.prog W .any base 24 v1) (h1:DataW.Trod enc Tryz.prog W 0 (fun _=>true) true 24 v1 d1 p1)
  (G:Value.okWide Tryz.prog W .any base 59 v2) (h2:DataW.Trod enc Tryz.prog W 0 (fun _=>true) true 59 v2 d2 p2)
  (I:Value.okWide Tryz.prog W .any base 9 v3) (h3:DataW.Trod enc Tryz.prog W 0 (fun _=>true) true 9 v3 d3 p3)
  (J:Value.okWide Tryz.prog W .any base 69 v4) (h4:DataW.Trod enc Tryz.prog W 0 (fun _=>true) true 69 v4 d4 p4):
  Calls Tryz.prog 6 #[v0,v1,v2,v3,v4] W fun e w'=>e=.returned (.bool true)/\Below W.heap.size W w':=by
 obtain ⟨ls,i0,i1,i2⟩:=intssArg D h0;obtain ⟨o0,o1,o2,rfl⟩:=ints3ArgJ E h1;obtain ⟨bs,j1,j2⟩:=cutsArg G h2;obtain ⟨S,rfl,k1⟩:=strArg I h3;obtain ⟨y,rfl,y1⟩:=i8Arg J h4;exact jmazes_calls makeQA o0 o1 o2 y W M i0 i1 i2 j1 j2 k1 y1
end
end
end Go.Proofs.YtjomnbdjajjgfaaGreatDoor
