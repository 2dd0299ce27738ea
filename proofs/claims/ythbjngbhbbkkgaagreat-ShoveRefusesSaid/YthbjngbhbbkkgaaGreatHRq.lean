import Derived.Test.YthbjngbhbbkkgaaGreatHRn
import Derived.ArgAppend
set_option linter.unusedVariables false
set_option linter.unusedSimpArgs false
set_option maxRecDepth 100000
set_option maxHeartbeats 16000000
namespace Go.Proofs.YthbjngbhbbkkgaaGreat
variable {a:Act} {ops:Array Oper} {Q:Exit->Act->World->Prop} {c d e n:Int} {fr:Int->Bool} {F G:List (Int×Int)} {fixed:List (List Int)} {fm s tg:List Int} {rest:List Oper} {m:MZ} {cf g gb gm gs gt k t:Nat} {ok:Nat->Prop} {o:Oper} {Af:Option Addr} {b:Option Int}
section
open Go.RowKit
theorem dist_le {m:MZ} {fr:Int->Bool} {tg tg':List Int} {k:Nat} {F G:List (Int×Int)} (hF:DN m fr tg k F) (hG:DN m fr tg' G.length G) (O:∀x∈tg,x∈tg'):
  ∀(d:Nat) (x:Int),F.lookup x=some (d:Int)->∃e,G.lookup x=some e/\e<=(d:Int)
 | d,x,h=>by
  have h1:=Aj h;obtain ⟨-,z,-⟩:=hF.rg _ h1;rcases hF.bk _ h1 with ⟨h2,h3⟩ | ⟨q,M,h2,h3⟩
  ·exact ⟨0,CM hG.nd (hG.ini x (O x h3) z),by omega⟩
  ·simp only at h2 h3;obtain ⟨-,-,a0⟩:=hF.rg q M;obtain ⟨d',D⟩:∃d':Nat,d=d'+1:=⟨d - 1,by omega⟩;subst D;have I:q.2=(d':Int):=by omega
   have T:F.lookup q.1=some (d':Int):=CM hF.nd (by rw [<-I];exact M);obtain ⟨e,U,h6⟩:=dist_le hF hG O d' q.1 T;obtain ⟨i,L,ei⟩:=Fm (Aj U);obtain ⟨q',E,V,J⟩:=hG.cl i L _ (EE L) x (by rw [ei];exact h2) z;rw [ei] at J;refine ⟨q'.2,CM hG.nd (by rw [<-V];exact E),?_⟩;simp only at J;omega
theorem dist_nat (hF:DN m fr tg k F) {x:Int} (h:F.lookup x=some d):∃n:Nat,d=n:=by
 obtain ⟨-,-,h0⟩:=hF.rg _ (Aj h);exact ⟨d.toNat,by simp only at h0;omega⟩
theorem dist_uniq {tg':List Int} (hF:DN m fr tg F.length F) (hG:DN m fr tg' G.length G) (D:∀x,x∈tg↔x∈tg') (x:Int):F.lookup x=G.lookup x:=by
 cases z:F.lookup x with
 | none=>
  cases E:G.lookup x with
  | none=>rfl
  | some e=>
   obtain ⟨n,rfl⟩:=dist_nat hG E;obtain ⟨e,h1,-⟩:=dist_le hG hF (fun x h=>(D x).2 h) n x E;rw [z] at h1;cases h1
 | some d=>
  obtain ⟨n,rfl⟩:=dist_nat hF z;obtain ⟨e,h1,h2⟩:=dist_le hF hG (fun x h=>(D x).1 h) n x z;obtain ⟨k,rfl⟩:=dist_nat hG h1;obtain ⟨e',h3,I⟩:=dist_le hG hF (fun x h=>(D x).2 h) k x h1;rw [z] at h3;injection h3 with h3;rw [h1];congr 1;omega
def toL (m:MZ) (t:Nat):List Int:=((List.range m.n.toNat).map Int.ofNat).filter fun x=>decide (x∈(m.tasks.getD t ([],[])).2)
def farQ (m:MZ) (t:Nat) (fixed:List (List Int)):List (Int×Int):=bfs m (DA m t fixed) (m.n.toNat+1) 0 (zt (DA m t fixed) 0 (toL m t) [])
theorem mem_toL (g:zC m) (z:t<m.tasks.length) (x:Int):x∈toL m t↔x∈(m.tasks.getD t ([],[])).2:=by
 unfold toL;rw [FG,EQ];refine ⟨fun h=>h.2,fun h=>⟨?_,h⟩⟩;have h2:=h;rw [EF,EE z,Fl] at h2;obtain ⟨h3,D⟩:=g.tn _ (EH z) x (.inr h2);exact FH.2 ⟨x.toNat,FI.2 (by omega),by show ((x.toNat:Nat):Int)=x;omega⟩
theorem farQ_fi (g:zC m) (D:t<m.tasks.length):DN m (DA m t fixed) (toL m t) (farQ m t fixed).length (farQ m t fixed):=by
 have h0:DN m (DA m t fixed) (toL m t) 0 (zt (DA m t fixed) 0 (toL m t) []):=DN.start fun x z=>by
  have z:=(mem_toL g D x).1 z;rw [EF,EE D,Fl] at z;exact g.tn _ (EH D) x (.inr z)
 obtain ⟨j,E,e⟩:=bfs_fi g.dim (m.n.toNat+1) 0 _ h0 (EU _) (by omega);have:j=(farQ m t fixed).length:=e;rw [<-this];exact E
theorem farQ_eq (g:zC m) (z:t<m.tasks.length) (x:Int):(farQ m t fixed).lookup x=(farP m t fixed).lookup x:=dist_uniq (farQ_fi g z) (farP_fi g z) (mem_toL g z) x
def BR (F:List (Int×Int)) (fm:List Int) (k:Nat) (b:Option Int):Prop:=match b with
 | none=>∀n∈fm,0<=n->n<k->F.lookup n=none
 | some r=>r∈fm/\0<=r/\r<k/\∃d,F.lookup r=some d/\∀n∈fm,0<=n->n<k->∀e,F.lookup n=some e->d<e\/(d=e/\r<=n)
theorem BR.zero (F:List (Int×Int)) (fm:List Int):BR F fm 0 none:=fun n _ h0 h1=>by omega
theorem BR.skip (h:BR F fm k b) (hs:(k:Int)∉fm\/F.lookup (k:Int)=none):BR F fm (k+1) b:=by
 cases b with
 | none=>
  intro n z h0 h1;by_cases D:n=(k:Int)
  ·subst D;exact hs.resolve_left fun h=>h z
  ·exact h n z h0 (by omega)
 | some r=>
  obtain ⟨h1,h2,h3,d,E,I⟩:=h;refine ⟨h1,h2,by omega,d,E,fun n z h0 J e he=>?_⟩;by_cases D:n=(k:Int)
  ·subst D;rcases hs with hs | hs
   ·exact absurd z hs
   ·rw [hs] at he;cases he
  ·exact I n z h0 (by omega) e he
theorem BR.old {r:Int} (h:BR F fm k (some r)) (E:F.lookup r=some d) (J:F.lookup (k:Int)=some e) (L:d<=e):BR F fm (k+1) (some r):=by
 obtain ⟨h1,h2,h3,d',z,I⟩:=h;rw [E] at z;injection z with z;subst z;refine ⟨h1,h2,by omega,d,E,fun n M h0 O e' he=>?_⟩;by_cases D:n=(k:Int)
 ·subst D;rw [J] at he;injection he with he;omega
 ·exact I n M h0 (by omega) e' he
theorem BR.new (h:BR F fm k b) (hm:(k:Int)∈fm) (E:F.lookup (k:Int)=some e) (z:∀r d,b=some r->F.lookup r=some d->e<d):BR F fm (k+1) (some (k:Int)):=by
 refine ⟨hm,by omega,by omega,e,E,fun n I h0 M e' he=>?_⟩;by_cases D:n=(k:Int)
 ·subst D;rw [E] at he;injection he with he;omega
 ·cases b with
  | none=>rw [h n I h0 (by omega)] at he;cases he
  | some r=>
   obtain ⟨h1,h2,h3,d,J,L⟩:=h;have:=z r d rfl J;have:=L n I h0 (by omega) e' he;omega
theorem BR.all (h:BR F fm k b) (J:∀n∈fm,0<=n/\n<k):BL F fm none=b:=by
 cases E:BL F fm none with
 | none=>
  obtain ⟨-,h2⟩:=bestL_none E
  cases b with
  | none=>rfl
  | some r=>
   obtain ⟨h1,-,-,d,z,-⟩:=h;rw [h2 r h1] at z;cases z
 | some s=>
  obtain ⟨d,h1,h2,-,h3⟩:=CF (b:=none) (fun c I=>by cases I) E;have h2:=h2.resolve_left (by simp);obtain ⟨z,D⟩:=J s h2
  cases b with
  | none=>rw [h s h2 z D] at h1;cases h1
  | some r=>
   obtain ⟨a1,a2,a3,e,a4,a5⟩:=h;have b1:=a5 s h2 z D d h1;have b2:=h3 r e a1 a4;congr 1;omega
theorem downN_congr (h:∀x,F.lookup x=G.lookup x) (b:Int):CU m F b=CU m G b:=by
 unfold CU;simp only [h]
theorem down_congr {m:MZ} {F G:List (Int×Int)} (h:∀x,F.lookup x=G.lookup x):∀(f:Nat) (b:Int),Cx m F f b=Cx m G f b
 | 0,b=>rfl
 | f+1,b=>by
  unfold Cx;rw [downN_congr h,down_congr h f]
theorem bestL_congr {F G:List (Int×Int)} (h:∀x,F.lookup x=G.lookup x):∀(l:List Int) (b:Option Int),BL F l b=BL G l b
 | [],b=>rfl
 | n :: l,b=>by
  unfold BL;simp only [h];exact bestL_congr h l _
theorem descP_congr (h:∀x,F.lookup x=G.lookup x) (fm:List Int):CE m F fm=CE m G fm:=by
 unfold CE;rw [bestL_congr h];congr 1;funext b;rw [h,down_congr h]
theorem pathP_far (z:AO m=0) (D:t<m.tasks.length):BM m t fixed=CE m (farQ m t fixed) (m.tasks.getD t ([],[])).1:=by
 unfold BM;rw [if_pos (AX.2 ⟨z,by omega,by omega⟩),Fy];exact descP_congr (fun x=>(farQ_eq (zC.of z) D x).symm) _
end
section
open Go.RowKit
attribute [local go_sem ↓] Go.wp_at_zero Go.wp_at_succ
theorem box6 (w:World) (a0 a1 a2 a3 a4 a5:Value):zb w (w.alloc (.cells #[a0,a1,a2,a3,a4,a5] 32))/\
  (∀W,zb (w.alloc (.cells #[a0,a1,a2,a3,a4,a5] 32)) W->W.cell? ⟨w.heap.size,0,none⟩=some a0)/\(∀W,zb (w.alloc (.cells #[a0,a1,a2,a3,a4,a5] 32)) W->W.cell? ⟨w.heap.size,1,none⟩=some a1)/\
  (∀W,zb (w.alloc (.cells #[a0,a1,a2,a3,a4,a5] 32)) W->W.cell? ⟨w.heap.size,2,none⟩=some a2)/\(∀W,zb (w.alloc (.cells #[a0,a1,a2,a3,a4,a5] 32)) W->W.cell? ⟨w.heap.size,3,none⟩=some a3)/\
  (∀W,zb (w.alloc (.cells #[a0,a1,a2,a3,a4,a5] 32)) W->W.cell? ⟨w.heap.size,4,none⟩=some a4)/\(∀W,zb (w.alloc (.cells #[a0,a1,a2,a3,a4,a5] 32)) W->W.cell? ⟨w.heap.size,5,none⟩=some a5):=by
 have z:=zk.new w #[a0,a1,a2,a3,a4,a5] 32 rfl;exact ⟨(zb.refl w).alloc _,zb.rule (z.cell (k:=0) rfl),zb.rule (z.cell (k:=1) rfl),zb.rule (z.cell (k:=2) rfl),zb.rule (z.cell (k:=3) rfl),zb.rule (z.cell (k:=4) rfl),zb.rule (z.cell (k:=5) rfl)⟩
theorem box1 (w:World) (a:Value) (t:TypeId):zb w (w.alloc (.cells #[a] t))/\∀W,zb (w.alloc (.cells #[a] t)) W->W.cell? ⟨w.heap.size,0,none⟩=some a:=
 ⟨(zb.refl w).alloc _,zb.rule ((zk.new w #[a] t rfl).cell (k:=0) rfl)⟩
theorem zw.parts {w:World} {v:Value} (h:zw w ok v m):∃Af cf Au cu At ct,v=.agg #[.int .i64 m.w,.int .i64 m.h,.int .i64 m.l,.slice Af m.free.length cf,.slice Au m.up.length cu,.slice At m.tasks.length ct]/\
  Bj w ok (.slice Af m.free.length cf) m.free/\BB w ok (.slice Au m.up.length cu) m.up/\BU w ok (.slice At m.tasks.length ct) m.tasks:=by
 obtain ⟨vfr,vup,vts,rfl,I,L,J⟩:=h;have z:=I;have E:=L;have D:=J;obtain ⟨_,⟨Af,cf,rfl,-⟩,-⟩:=z;obtain ⟨Au,cu,rfl,-⟩:=E;obtain ⟨_,⟨At,ct,rfl,-⟩,-⟩:=D;exact ⟨Af,cf,Au,cu,At,ct,rfl,I,L,J⟩
theorem Ek {v:Value} (t:Int) (w:World) (hm:zw w ok v m) (O:Lens m):
  Calls Tryz.prog 37 #[v,.int .i64 t] w fun e w'=>e=.returned (.bool (AM m t))/\zb w w':=by
 have L:=zh hm;have V:=zh O;obtain ⟨Af,cf,Au,cu,At,ct,rfl,-,-,-⟩:=hm.parts;have l3:=O.ts;clear hm O
 go_enter Tryz.func37,Tryz.ntmps37
 go_wp2_with fail
 obtain ⟨I,r0,r1,r2,r3,r4,r5⟩:=box6 w (.int .i64 m.w) (.int .i64 m.h) (.int .i64 m.l) (.slice Af m.free.length cf) (.slice Au m.up.length cu) (.slice At m.tasks.length ct);generalize w.alloc _=w1 at I r0 r1 r2 r3 r4 r5⊢;have hx:zb w1 w1:=zb.refl w1
 go_wp2_with fail
 refine (Bv w1 (L.out.below I) V.out).mono ?_;rintro e wA ⟨rfl,M⟩;have T:zb w1 wA:=M;clear hx;have U:∀b,AM m t=b->(Ending.returned (Value.bool b)=.returned (.bool (AM m t))/\zb w wA):=fun b z=>⟨by rw [z],I.trans T⟩
 have J:=zh U;clear U;by_cases E:AO m=0
 case neg=>
  have hd:(AO m==0)=false:=by simpa using E
  have z:AM m t=false:=by unfold AM;rw [EK E];rfl
  have D:=zh z;clear z E;go_wp2;go_ret;exact J.out _ D.out
 have hd:(AO m==0)=true:=by simpa using E
 by_cases h0:0<=t
 case neg=>
  have z:AM m t=false:=by unfold AM;rw [EK h0];simp
  have D:=zh z;clear z E;go_wp2;go_ret;exact J.out _ D.out
 by_cases h1:t<(m.tasks.length:Int)
 case neg=>
  have z:AM m t=false:=by unfold AM;rw [EK h1];simp
  have D:=zh z;clear z E;go_wp2;go_ret;exact J.out _ (by first | exact D.out | exact D.out.trans (EK (by omega)).symm | exact D.out.trans (EJ (by omega)).symm)
 have z:AM m t=true:=by unfold AM;rw [EJ h1,EJ h0,EJ E];rfl
 have D:=zh z;clear z E;go_wp2;go_ret;exact J.out _ (by first | exact D.out | exact D.out.trans (EK (by omega)).symm | exact D.out.trans (EJ (by omega)).symm)
end
section
open Go.RowKit
open Go.ChangeMaps (setBlock)
def entI:List (Int×Int)->Nat->List MapEntry
 | [],_=>[]
 | p :: l,b=>{ key:=.int .i64 p.1,val:=.int .i64 p.2,born:=b } :: entI l (b+1)
def mapObjI (l:List (Int×Int)):Obj:=.map (entI l 0).toArray l.length
def BS (w:World) (g:Nat) (l:List (Int×Int)):Prop:=w.heap[g]?=some (mapObjI l)
theorem entI_append:∀(l l':List (Int×Int)) (b:Nat),entI (l++l') b=entI l b++entI l' (b+l.length)
 | [],_,_=>by simp [entI]
 | _ :: l,l',b=>by simp [entI,entI_append l l' (b+1),Nat.add_assoc,Nat.add_comm 1]
theorem BS.keep {w w':World} {l:List (Int×Int)} (h:BS w g l) (D:zW ok w w') (z:ok g):BS w' g l:=(D g z (zd h)).trans h
theorem BS.below {w w':World} {l:List (Int×Int)} (h:BS w g l) (z:Below w.heap.size w w'):BS w' g l:=(z.block g (zd h)).trans h
theorem BS.new (w:World):BS (w.alloc (.map #[] 0)) w.heap.size []:=Fu _ _
open Go.Instr in
theorem CZ (x:Int):∀(l:List (Int×Int)) (b s:Nat),∃i,findNow (.int .i64) (.int .i64 x) (entI l b) s=some ((l.lookup x).map fun d=>(i,.int .i64 d))
 | [],_,_=>⟨0,by simp [entI,findNow]⟩
 | (y,d) :: l,b,s=>by
  simp only [entI,findNow,sameNow,if_true];by_cases h:x=y
  ·subst h;exact ⟨s,by simp⟩
  ·have z:(x==y)=false:=by simpa using h
   simp only [z];obtain ⟨i,D⟩:=CZ x l (b+1) (s+1);refine ⟨i,?_⟩;rw [D,List.lookup_cons,z]
theorem run_farOk {w:World} {l:List (Int×Int)} (h:BS w g l) (x:Int) (t:TypeId) (D:Tryz.prog.underlying t=some (.map 3 3)):
  (Instr.lookup t (.map (some g)) (.int .i64 x) true).run Tryz.prog w=.ok (.tuple #[.int .i64 ((l.lookup x).getD 0),.bool (l.lookup x).isSome]) w:=by
 have E:∀w,(zeroValue 3).run Tryz.prog w=.ok (.int .i64 0) w:=fun w=>by kernel_rfl
 unfold Instr.lookup;simp only [Sem.run_bind,run_underlying D,Result.andThen_ok,CX h,mapObjI,Sem.run_pure];rw [show (10000:Nat)=9999+1 from rfl,CB];obtain ⟨i,z⟩:=CZ x l 0 0;simp only [Result.andThen_ok,Instr.findKey,Sem.run_bind,run_underlying Tryz.underlying3,List.toList_toArray,z]
 cases l.lookup x with
 | none=>simp [E]
 | some d=>simp
theorem run_far {w:World} {l:List (Int×Int)} (h:BS w g l) (x:Int) (t:TypeId) (D:Tryz.prog.underlying t=some (.map 3 3)):
  (Instr.lookup t (.map (some g)) (.int .i64 x) false).run Tryz.prog w=.ok (.int .i64 ((l.lookup x).getD 0)) w:=by
 have E:∀w,(zeroValue 3).run Tryz.prog w=.ok (.int .i64 0) w:=fun w=>by kernel_rfl
 unfold Instr.lookup;simp only [Sem.run_bind,run_underlying D,Result.andThen_ok,CX h,mapObjI,Sem.run_pure];rw [show (10000:Nat)=9999+1 from rfl,CB];obtain ⟨i,z⟩:=CZ x l 0 0;simp only [Result.andThen_ok,Instr.findKey,Sem.run_bind,run_underlying Tryz.underlying3,List.toList_toArray,z]
 cases l.lookup x with
 | none=>simp [E]
 | some d=>simp
theorem run_farAdd {w:World} {l:List (Int×Int)} (h:BS w g l) (x d:Int) (I:l.lookup x=none) (t:TypeId) (E:Tryz.prog.underlying t=some (.map 3 3)):
  ∃w',(Instr.mapUpdate t (.map (some g)) (.int .i64 x) (.int .i64 d)).run Tryz.prog w=.ok () w'/\BS w' g (l++[(x,d)])/\w.grownBy w' (some g):=by
 refine ⟨setBlock w g (mapObjI (l++[(x,d)])),?_,setBlk_same h,⟨rfl,rfl,rfl,by simp [setBlock],fun k _ D=>Dc _ (fun e=>D (by rw [e]))⟩⟩;unfold Instr.mapUpdate;simp only [Sem.run_bind,run_underlying E,Result.andThen_ok,CX h,mapObjI];rw [show (10000:Nat)=9999+1 from rfl,CB];obtain ⟨i,z⟩:=CZ x l 0 0;rw [I] at z;simp only [Result.andThen_ok,Instr.findKey,Sem.run_bind,run_underlying Tryz.underlying3,List.toList_toArray,z,Option.map_none];simp only [Sem.run_pure,Result.andThen_ok];rw [Ev _ h,entI_append];simp [entI]
theorem wpFarAdd {w:World} (J:o.guard=none) (m y v:Operand) (t:TypeId) (E:o.op=Op.mapUpdate t m y v)
  (M:Tryz.prog.underlying t=some (.map 3 3)) (g:Nat) (l:List (Int×Int)) (x d:Int) (T:l.lookup x=none) (hm:a.eval m=.map (some g)) (U:a.eval y=.int .i64 x) (O:a.eval v=.int .i64 d) (L:BS w g l)
  (I:∀w',BS w' g (l++[(x,d)])->w.grownBy w' (some g)->wpList Tryz.prog ops Q rest (a.put o.dst undef) w'):wpList Tryz.prog ops Q (o :: rest) a w:=by
 refine wpList_plain J fun K' D=>?_
 obtain ⟨w',z,h1,h2⟩:=run_farAdd L x d T t M;unfold Oper.wp;simp [execOp,E,hm,U,O,z,Result.andThen];exact D _ _ (I w' h1 h2)
end
section
open Go.RowKit
def Que (w:World) (B:Nat) (v:Value) (l:List Int):Prop:=
 (v=.slice none 0 0/\l=[])\/∃g o c cur,v=.slice (some ⟨g,o,none⟩) l.length c/\B<=g/\l.length<=c/\c<=maxLen/\zk w g 3 cur/\o+c<=cur.size/\∀(j:Nat) x,l[j]?=some x->cur[o+j]?=some (.int .i64 x)
theorem Que.nil (w:World) (B:Nat):Que w B (.slice none 0 0) []:=.inl ⟨rfl,rfl⟩
theorem Que.of_own {w:World} {B:Nat} {v:Value} {l:List Int} (h:zD w B v l):Que w B v l:=by
 obtain ⟨O,⟨rfl,h0⟩ | ⟨g,cap,cur,rfl,I,J,D,z,E,L⟩⟩:=h
 ·exact .inl ⟨rfl,List.length_eq_zero_iff.1 h0⟩
 ·refine .inr ⟨g,0,cap,cur,rfl,I,D,z,J,by omega,fun j x M=>?_⟩;have h1:(l.map (Value.int .i64))[j]?=some (.int .i64 x):=by rw [Fq,M];rfl
  rw [<-L,List.getElem?_take] at h1
  split at h1
  ·rw [Nat.zero_add];simpa using h1
  ·cases h1
section
variable {w w':World} {B:Nat} {v:Value} {l:List Int} {x:Int}
theorem Que.ge (h:Que w B v l) (z:v.ownBlock=some k):B<=k/\k<w.heap.size:=by
 rcases h with ⟨rfl,-⟩ | ⟨g,o,c,cur,rfl,E,-,-,D,-⟩
 ·cases z
 ·have:g=k:=by simpa [Value.ownBlock] using z
  subst this;exact ⟨E,zd D⟩
theorem Que.kept {r:Option Nat} (h:Que w B v l) (I:w.grownBy w' r) (z:∀k,v.ownBlock=some k->r≠some k):Que w' B v l:=by
 rcases h with h | ⟨g,o,c,cur,rfl,h1,h2,h3,D,E⟩
 ·exact .inl h
 ·exact .inr ⟨g,o,c,cur,rfl,h1,h2,h3,(I.block g (zd D) (fun e=>z g rfl e.symm)).trans D,E⟩
theorem Que.more (h:Que w B v l) (z:zb w w'):Que w' B v l:=
 h.kept (r:=none) ⟨z.os,z.tape,z.output,z.size,fun i D _=>z.block i D⟩ (fun _ _ e=>by cases e)
theorem Que.slice (h:Que w B v l):∃A c,v=.slice A l.length c/\l.length<=c:=by
 rcases h with ⟨rfl,rfl⟩ | ⟨g,o,c,cur,rfl,-,h2,-⟩
 ·exact ⟨none,0,rfl,EG _⟩
 ·exact ⟨_,c,rfl,h2⟩
theorem Que.head (h:Que w B v (x :: l)):∃g o c v',v=.slice (some ⟨g,o,none⟩) (l.length+1) (c+1)/\l.length<=c/\w.cell? ⟨g,o,none⟩=some (.int .i64 x)/\Que w B v' l/\v'.ownBlock=v.ownBlock/\
  (Instr.sliceAt 23 (.slice (some ⟨g,o,none⟩) (l.length+1) (c+1)) (some (.int .i64 1)) none none).run Tryz.prog w=.ok v' w/\(Instr.slice 23 (.slice (some ⟨g,o,none⟩) (l.length+1) (c+1)) (some (.int .i64 1)) none none).run Tryz.prog w=.ok v' w:=by
 rcases h with ⟨-,h⟩ | ⟨g,o,c,cur,rfl,h1,h2,h3,E,V,T⟩
 ·cases h
 ·obtain ⟨c,rfl⟩:∃c',c=c'+1:=⟨c - 1,by simp at h2;omega⟩;have D:l.length<=c:=by simpa using h2
  have U:(sizeOf 3).run Tryz.prog w=.ok 1 w:=Tryz.sizeOf3 w
  have z:(Instr.slice 23 (.slice (some ⟨g,o,none⟩) (l.length+1) (c+1)) (some (.int .i64 1)) none none).run Tryz.prog w=.ok (.slice (if c+1=1 then some ⟨g,o,none⟩ else some ⟨g,o+1,none⟩) l.length c) w:=by
   have M:(Instr.sliceBounds true (l.length+1) (c+1) (some (.int .i64 1)) none none).run Tryz.prog w=.ok (1,l.length+1,c+1) w:=by
    unfold Instr.sliceBounds;simp only [Sem.run_bind,Sem.run_pure,Result.andThen_ok];rw [run_sliceBound _ _ _ _ _ (by omega) (by omega)];rfl
   unfold Instr.slice;simp only [Sem.run_bind,run_underlying Tryz.underlying23,Result.andThen_ok,M,U,Sem.run_pure,Nat.add_sub_cancel,Nat.mul_one]
   split <;> simp [Addr.add]
  refine ⟨g,o,c,_,rfl,D,?_,?_,?_,(run_sliceAt_slice w 23 _ _ _ _ Tryz.underlying23).trans z,z⟩
  ·have:=T 0 x rfl;unfold World.cell?;have I:w.heap[g]?=_:=E;simp only [I];simpa using this
  ·by_cases J:c=0
   ·subst J;have L:l=[]:=List.length_eq_zero_iff.1 (by omega);subst L;exact .inr ⟨g,o,0,cur,rfl,h1,EG _,by omega,E,by omega,fun j y O=>by simp at O⟩
   ·rw [if_neg (by omega)];refine .inr ⟨g,o+1,c,cur,rfl,h1,D,by omega,E,by omega,fun j y O=>?_⟩;have:=T (j+1) y (by simpa using O);rw [show o+1+j=o+(j+1) by omega];exact this
  ·split <;> rfl
theorem run_que_app (h:Que w B v l) (t ty:TypeId) (ht:Tryz.prog.underlying t=some (.slice 3)) {c:Nat} (hc:w.cell? ⟨g,0,none⟩=some (.int .i64 x)) (hB:B<=w.heap.size) (hl:l.length<=1000000000000):
  ∃v' w',(Builtin.append_ #[t,t] ty #[v,.slice (some ⟨g,0,none⟩) 1 c]).run Tryz.prog w=.ok v' w'/\Que w' B v' (l++[x])/\w.grownBy w' v.ownBlock/\(v'.ownBlock=v.ownBlock\/v'.ownBlock=some w.heap.size):=by
 obtain ⟨i0,hi,O,E,T⟩:=info_parts Tryz.infoInt
 have D:∀(j:Nat) (u:Value),[Value.int .i64 x][j]?=some u->w.cell? ((⟨g,0,none⟩:Addr).add j)=some u:=fun j u I=>by
  match j,I with
  | 0,I=>
   have:u=.int .i64 x:=by simpa using I.symm
   rw [this];exact hc
 have U:∀u∈[Value.int .i64 x],u.oneCell'=true:=fun u I=>by
  have:u=.int .i64 x:=by simpa using I
  rw [this];rfl
 rcases h with ⟨rfl,rfl⟩ | ⟨gq,o,cq,cur,rfl,h1,h2,h3,hb,h4,h5⟩
 ·obtain ⟨v',w',z,r1,r2,-⟩:=run_append_own (P:=Tryz.prog) w B t ty 3 i0 (.int .i64 0) 1 8 ht hi O E T rfl (by decide) (.slice none 0 0) 0 [] (World.ownsRow_nil _ _ _ _) ⟨g,0,none⟩ 1 c [.int .i64 x] rfl D U (by unfold maxLen;omega) (by omega) hB;have hO:zD w' B v' [x]:=r1;refine ⟨v',w',z,Que.of_own hO,r2,.inr ?_⟩;have hn:=run_append_nil (P:=Tryz.prog) w t ty 3 i0 (.int .i64 0) ht hi O ⟨g,0,none⟩ 1 c [.int .i64 x] (by rw [E];rfl) D (by omega) (by omega) (by rw [T];omega);rw [z] at hn;injection hn with hn _;rw [hn];rfl
 ·have V:∀j,j<o+cq->∃u,w.cell? ⟨gq,j,none⟩=some u:=fun j hj=>by
   have J:w.heap[gq]?=_:=hb;unfold World.cell?;simp only [J];exact ⟨cur[j]'(by omega),by simp⟩
  have a9:∀j,w.frozen? ⟨gq,j,none⟩=false:=fun j=>by
   have J:w.heap[gq]?=_:=hb;unfold World.frozen?;simp only [J];simp
  by_cases L:l.length+1<=cq
  ·have z:=run_append_room_cells (P:=Tryz.prog) w t ty 3 i0 ht hi gq o l.length cq ⟨g,0,none⟩ 1 c [.int .i64 x] (by rw [E];rfl) D U L
    (fun j hj=>by
     have:j=0:=by simpa using hj
     subst this;obtain ⟨u,I⟩:=V (o+l.length*i0.size+0) (by rw [E];omega);rw [I];rfl) (fun j hj=>a9 _)
   have e1:w.setCells gq (o+l.length*i0.size) [.int .i64 x]=w.setCell ⟨gq,o+l.length,none⟩ (.int .i64 x):=by
    rw [E,Nat.mul_one];rfl
   rw [e1] at z;refine ⟨_,_,z,.inr ⟨gq,o,cq,_,by rw [EO];rfl,h1,by rw [EO];exact L,h3,hb.set _,by simpa using h4,fun j y hy=>?_⟩,⟨rfl,rfl,rfl,by simp,fun k _ hk=>EP w ⟨gq,o+l.length,none⟩ _ k (fun e=>hk (by simp [Value.ownBlock,e]))⟩,.inl rfl⟩;rw [Array.getElem?_setIfInBounds];by_cases hj:j<l.length
   ·rw [if_neg (by omega)];exact h5 j y (by rwa [EL hj] at hy)
   ·rw [EM (by omega)] at hy
    have b7:j - l.length=0:=by
     obtain ⟨h,-⟩:=FD.1 hy;simpa using h
    have b0:j=l.length:=by omega
    subst b0;rw [if_pos rfl,if_pos (by omega)];have:x=y:=by simpa using hy
    rw [this]
  ·have holds:∀(j:Nat) u,(l.map (Value.int .i64))[j]?=some u->w.cell? ((⟨gq,o,none⟩:Addr).add j)=some u:=fun j u I=>by
    rw [Fq] at I
    cases a0:l[j]? with
    | none=>rw [a0] at I;cases I
    | some y=>
     rw [a0] at I;have h6:=h5 j y a0;have J:w.heap[gq]?=_:=hb;rw [Addr.add_lit];unfold World.cell?;simp only [J];rw [h6];exact I
   have M:=run_append_grow (P:=Tryz.prog) w t ty 3 i0 (.int .i64 0) ht hi O ⟨gq,o,none⟩ l.length cq (l.map (Value.int .i64)) (by rw [E];simp) holds ⟨g,0,none⟩ 1 c [.int .i64 x] (by rw [E];rfl) D (by omega) (by omega) (growslice_fits (by omega) (by rw [T];omega));obtain ⟨v',w',z,r1,r2⟩:=run_append_arg_grows (P:=Tryz.prog) w t ty 3 i0 (.int .i64 0) 1 8 ht hi O E T rfl (by decide) ⟨gq,o,none⟩ l.length cq (l.map (Value.int .i64)) (by simp) holds ⟨g,0,none⟩ 1 c [.int .i64 x] rfl D (by omega) (by unfold maxLen;omega) (by omega)
   have hO:zD w' w.heap.size v' (l++[x]):=by
    unfold zD;rw [map_snoc,EO];exact r1
   have a8:zD w' B v' (l++[x]):=hO.mono hB;refine ⟨v',w',z,Que.of_own a8,⟨r2.os,r2.tape,r2.output,r2.size,fun k hk _=>r2.block k hk (by simp)⟩,.inr ?_⟩;rw [z] at M;injection M with M _;rw [M];rfl
theorem wpQueApp (I:o.guard=none) (s y:Operand)
  (O:o.op=.call { callee:=.builtin .append,args:=#[s,y],argTypes:=#[23,23] }) (W:World) (l:List Int) (x:Int) (B g c:Nat) (v:Value) (T:a.eval s=v)
  (U:a.eval y=.slice (some ⟨g,0,none⟩) 1 c) (z:Que W B v l) (L:W.cell? ⟨g,0,none⟩=some (.int .i64 x)) (J:B<=W.heap.size) (M:l.length<=1000000000000)
  (h:∀v' w',Que w' B v' (l++[x])->Hid (W.grownBy w' v.ownBlock)->Hid (v'.ownBlock=v.ownBlock\/v'.ownBlock=some W.heap.size)->wpList Tryz.prog ops Q rest (a.put o.dst v') w'):wpList Tryz.prog ops Q (o :: rest) a W:=by
 refine wpList_plain I fun K E=>?_
 obtain ⟨v',w',D,r1,r2,r3⟩:=run_que_app z 23 o.type Tryz.underlying23 (c:=c) L J M;unfold Oper.wp;simp [execOp,O,resolve,invoke,builtin,T,U,D,Result.andThen];exact E _ _ (h v' w' r1 r2 r3)
end
end
section
open Go.RowKit
attribute [local go_sem ↓] Go.wp_at_zero Go.wp_at_succ
theorem De {W:World} (h:Bj W ok (.slice Af m.free.length cf) m.free) (U:∀f∈m.free,(f.length:Int)=m.n) (I:t<m.free.length) (h0:0<=n) (h1:n<m.n):
  ∃b off b' off' l c',Af=some ⟨b,off,none⟩/\W.cell? ⟨b,off+t,none⟩=some (.slice (some ⟨b',off',none⟩) l c')/\n<(l:Int)/\l<=c'/\m.free.length<=cf/\W.cell? ⟨b',off'+n.toNat,none⟩=some (.bool (zi m t n)):=by
 obtain ⟨vsf,⟨A,c,e,M,a1⟩,O⟩:=h;injection e with e1 e2 e3;subst e1 e3;obtain ⟨bf,off3,uf,rfl,_,E,J⟩:=Ai a1 O I I;have T:=U _ (EH I);obtain ⟨A4,c4,rfl,L,a0⟩:=J;have D:n.toNat<(m.free[t]).length:=by omega
 obtain ⟨b4,off4,rfl,_,z⟩:=Cj a0 D D;have V:(m.free[t])[n.toNat]=zi m t n:=by simp [zi,I,D]
 rw [V] at z;exact ⟨bf,off3,b4,off4,_,c4,rfl,E,by omega,L,M,z⟩
theorem lookM_t {w:World} {l:List Int} {x:Int} (h:zF w g l) (z:x∈l):(Instr.lookup 78 (.map (some g)) (.int .i64 x) false).run Tryz.prog w=.ok (.bool true) w:=by
 have:=run_look h x 78 Tryz.underlying78
 rwa [EJ z] at this
theorem lookM_f {w:World} {l:List Int} {x:Int} (h:zF w g l) (z:x∉l):(Instr.lookup 78 (.map (some g)) (.int .i64 x) false).run Tryz.prog w=.ok (.bool false) w:=by
 have:=run_look h x 78 Tryz.underlying78
 rwa [EK z] at this
structure FreeM (w:World) (ok:Nat->Prop) (gm gt gb gs:Nat) (m:MZ) (t:Nat) (Af:Option Addr) (cf:Nat) (fixed:List (List Int)) (s:List Int):Prop where
 hcf:w.cell? ⟨gm,3,none⟩=some (.slice Af m.free.length cf)
 ct:w.cell? ⟨gt,0,none⟩=some (.int .i64 t)
 cb:w.cell? ⟨gb,0,none⟩=some (.map (some gs))
 fr:Bj w ok (.slice Af m.free.length cf) m.free
 set:zF w gs s
 mem:∀x,x∈s↔x∈fixed.flatten
theorem FreeM.ext {w w':World} (h:FreeM w ok gm gt gb gs m t Af cf fixed s) (z:zb w w'):FreeM w' ok gm gt gb gs m t Af cf fixed s:=
 ⟨z.cell h.hcf,z.cell h.ct,z.cell h.cb,h.fr.below z,h.set.below z,h.mem⟩
theorem path1_calls (n:Int) (w:World) (h:FreeM w ok gm gt gb gs m t Af cf fixed s) (M:∀f∈m.free,(f.length:Int)=m.n) (ht:t<m.free.length) (h0:0<=n) (h1:n<m.n):
  Calls Tryz.prog 48 #[.int .i64 n,.pointer (some ⟨gm,0,none⟩),.pointer (some ⟨gt,0,none⟩),.pointer (some ⟨gb,0,none⟩)] w fun e w'=>e=.returned (.bool (DA m t fixed n))/\w=w':=by
 obtain ⟨a1,a2,a0,T,D,E⟩:=h;obtain ⟨b,off,b',off',l,c',rfl,V,hl,a4,a3,J⟩:=De T M ht h0 h1;have a7:(t:Int)<(m.free.length:Int):=by omega
 have a6:(0:Int)<=(t:Int):=by omega
 clear T M
 have O:DA m t fixed n=(zi m t n && !decide (n∈s)):=by
  unfold DA;rw [decide_eq_decide.2 (E n)]
 rw [O];clear O E h1;obtain ⟨fb,L⟩:=zad (zi m t n);rw [<-L] at J⊢;clear L;by_cases I:n∈s
 ·have U:=lookM_t D I;have z:Hid ((fb && !decide (n∈s))=false):=by show _=false;rw [EJ I];cases fb <;> rfl
  clear I D
  cases fb with
  | false=>
   go_enter Tryz.func48,Tryz.ntmps48
   go_wp2;go_ret;exact ⟨ze z.out.symm,rfl⟩
  | true=>
   go_enter Tryz.func48,Tryz.ntmps48
   go_wp2;go_ret;exact ⟨ze z.out.symm,rfl⟩
 ·have U:=lookM_f D I;have z:Hid ((fb && !decide (n∈s))=fb):=by show _=fb;rw [EK I];cases fb <;> rfl
  clear I D
  cases fb with
  | false=>
   go_enter Tryz.func48,Tryz.ntmps48
   go_wp2;go_ret;exact ⟨ze z.out.symm,rfl⟩
  | true=>
   go_enter Tryz.func48,Tryz.ntmps48
   go_wp2;go_ret;exact ⟨ze z.out.symm,rfl⟩
def bestS (F:List (Int×Int)) (b:Option Int) (n:Int):Option Int:=match F.lookup n with
 | none=>b
 | some d=>match b with
  | none=>some n
  | some c=>if d<(F.lookup c).getD 0\/(d=(F.lookup c).getD 0/\n<c) then some n else some c
theorem bestL_fold (F:List (Int×Int)):∀(l:List Int) (b:Option Int),BL F l b=l.foldl (bestS F) b
 | [],b=>rfl
 | n :: l,b=>by
  unfold BL;rw [List.foldl_cons,bestL_fold F l];rfl
theorem bestL_succ {l:List Int} (z:k<l.length):BL F (l.take (k+1)) none=bestS F (BL F (l.take k) none) l[k]:=by
 rw [bestL_fold,bestL_fold,EN z,List.foldl_append];rfl
theorem bestS_none (h:F.lookup n=none):bestS F b n=b:=by unfold bestS;rw [h]
theorem bestS_first (h:F.lookup n=some d):bestS F none n=some n:=by unfold bestS;rw [h]
theorem bestS_new (h:F.lookup n=some d) (z:F.lookup c=some e) (D:d<e\/(d=e/\n<c)):bestS F (some c) n=some n:=by
 unfold bestS;rw [h];show (if d<(F.lookup c).getD 0\/(d=(F.lookup c).getD 0/\n<c) then some n else some c)=_;rw [z,Fl,if_pos D]
theorem bestS_old (h:F.lookup n=some d) (z:F.lookup c=some e) (D:¬ (d<e\/(d=e/\n<c))):bestS F (some c) n=some c:=by
 unfold bestS;rw [h];show (if d<(F.lookup c).getD 0\/(d=(F.lookup c).getD 0/\n<c) then some n else some c)=_;rw [z,Fl,if_neg D]
theorem DU {w:World} {l:List (Int×Int)} {x:Int} (h:BS w g l) (z:l.lookup x=none):(Instr.lookup 83 (.map (some g)) (.int .i64 x) true).run Tryz.prog w=.ok (.tuple #[.int .i64 0,.bool false]) w:=by
 have:=run_farOk h x 83 Tryz.underlying83
 rwa [z] at this
theorem Do {w:World} {l:List (Int×Int)} {x:Int} (h:BS w g l) (z:l.lookup x=some d):(Instr.lookup 83 (.map (some g)) (.int .i64 x) true).run Tryz.prog w=.ok (.tuple #[.int .i64 d,.bool true]) w:=by
 have:=run_farOk h x 83 Tryz.underlying83
 rwa [z] at this
theorem far_some {w:World} {l:List (Int×Int)} {x:Int} (h:BS w g l) (z:l.lookup x=some d):(Instr.lookup 83 (.map (some g)) (.int .i64 x) false).run Tryz.prog w=.ok (.int .i64 d) w:=by
 have:=run_far h x 83 Tryz.underlying83
 rwa [z] at this
theorem ownOne (W:World) (B:Nat) (e:TypeId) (x:Value) (z:B<=W.heap.size):(W.alloc (.cells #[x] e)).ownsRow B e 1 (.slice (some ⟨W.heap.size,0,none⟩) 1 1) 1 [x]:=
 ⟨rfl,.inr ⟨W.heap.size,1,#[x],rfl,z,Fu _ _,EG _,by unfold maxLen;omega,rfl,rfl⟩⟩
theorem DN.dist (g:zC m) (h:DN m fr tg k F) {x:Int} (D:F.lookup x=some d):0<=d/\d<300:=by
 have h0:=(h.rg _ (Aj D)).2.2;simp only at h0;obtain ⟨f,rfl⟩:∃f:Nat,d=(f:Int):=⟨d.toNat,by omega⟩;obtain ⟨a1,-,a3,-⟩:=down_spec g.dim h f x D
 have J:(Cx m F f x).Nodup:=by
  rw [List.nodup_iff_pairwise_ne,List.pairwise_iff_getElem];intro i j z I E e;have h1:=(a3 i _ (EE z));have h2:=(a3 j _ (EE I));rw [e,h2.2] at h1;have:=h1.2;injection this with this;omega
 have h2:=Bo J m.n (fun y L=>by
  obtain ⟨i,z,rfl⟩:=Fm L;exact (h.rg _ (Aj (a3 i _ (EE z)).2)).1)
 have h3:=g.dim.n1;unfold MZ.n at h2;omega
theorem downN_at (d:Ex m) (h:DN m fr tg k F) {b:Int} {f:Nat} (D:F.lookup b=some ((f:Int)+1)):
  ∃i,∃E:i<(zl m b).length,(zl m b)[i]=CU m F b/\∀j (I:j<i),F.lookup ((zl m b)[j]'(by omega))≠some (f:Int):=by
 have J:=(downN_ok d h D).1;have e:(F.lookup b).getD 0 - 1=(f:Int):=by rw [D,Fl];omega
 cases z:(zl m b).find? (fun x=>decide (F.lookup x=some (f:Int))) with
 | none=>
  have:=List.find?_eq_none.1 z _ (downN_ok d h D).2;exact absurd (EJ J) this
 | some y=>
  have L:CU m F b=y:=by unfold CU;rw [e,z];rfl
  obtain ⟨-,i,E,e1,e2⟩:=List.find?_eq_some_iff_getElem.1 z;refine ⟨i,E,by rw [L];exact e1,fun j I=>?_⟩;have:=e2 j I;simpa using this
theorem descend_calls {okm okf:Nat->Prop} {v vf:Value} {gf:Nat} (w:World) (hm:zw w okm v m) (hl:Lens m) (hc:AO m=0) (hf:zj w okf vf fm) (i4:fm.length<=20000000000000)
  (hF:BS w gf F) (hI:DN m fr tg k F):
  Calls Tryz.prog 49 #[v,vf,.map (some gf)] w fun e w'=>∃v',e=.returned (.tuple #[v',.bool (CE m F fm).isSome])/\Mk w w' v' ((CE m F fm).getD []):=by
 have e7:=zh hm;have HL:=zh hl;have T:=zh hI;have HC:=zh hc;have G:=zh (zC.of hc);obtain ⟨Af,cf,Au,cu,At,ct,rfl,-,-,-⟩:=hm.parts;obtain ⟨A,c,rfl,i1,hr⟩:=hf;have HR:=zh hr;clear hm hl hr hI hc
 go_enter Tryz.func49,Tryz.ntmps49
 go_wp2_with fail
 obtain ⟨M,r0,r1,r2,r3,r4,r5⟩:=box6 w (.int .i64 m.w) (.int .i64 m.h) (.int .i64 m.l) (.slice Af m.free.length cf) (.slice Au m.up.length cu) (.slice At m.tasks.length ct);generalize w.alloc _=w1 at M r0 r1 r2 r3 r4 r5⊢;have hF1:BS w1 gf F:=hF.below M;have hx:zb w1 w1:=zb.refl w1
 go_wp2_with fail
 go_loopw [8,9,21] (fun b s i wr=>∃k bo,k<=fm.length/\i=.int .i64 (k:Nat)/\w1=wr/\b=.int .i64 (bo.getD 0)/\s=.bool bo.isSome/\Hid (bo=BL F (fm.take k) none)/\Hid (∀c,bo=some c->∃e,F.lookup c=some e)) (fun _ _ i _=>fm.length - (intOf i).toNat)
 case atStart=>exact ⟨0,none,EU _,rfl,rfl,rfl,rfl,rfl,fun c h=>by cases h⟩
 case round=>
  obtain ⟨k,bo,hk,rfl,rfl,rfl,rfl,a6,J⟩:=hrel;by_cases a8:k<fm.length
  ·obtain ⟨b,off,rfl,_,D⟩:=zy (HR.out.keep (zW.of_below M)) a8 a8;have z:Hid (BL F (fm.take (k+1)) none=bestS F bo fm[k]):=by show _=_;rw [a6.out];exact bestL_succ a8
   clear a6;obtain ⟨y,I⟩:=zad (fm[k]);rw [<-I] at D z;clear I
   cases I:F.lookup y with
   | none=>
    have a0:=DU hF1 I;have O:Hid (bo=BL F (fm.take (k+1)) none):=by show _=_;rw [z.out,bestS_none I]
    clear I
    cases bo with
    | none=>
     go_wp2;go_roundw
     case rel=>exact ⟨k+1,none,by omega,by go_num,by trivial,rfl,rfl,O,J⟩
     case measure=>simp [intOf];omega
    | some c0=>
     go_wp2;go_roundw
     case rel=>exact ⟨k+1,some c0,by omega,by go_num,by trivial,rfl,rfl,O,J⟩
     case measure=>simp [intOf];omega
   | some d=>
    have a0:=Do hF1 I
    cases bo with
    | none=>
     have O:Hid (some y=BL F (fm.take (k+1)) none):=by show _=_;rw [z.out,bestS_first I]
     have HY:=zh I;clear I;go_wp2;go_roundw
     case rel=>exact ⟨k+1,some y,by omega,by go_num,by trivial,rfl,rfl,O,fun c e=>by injection e with e;subst e;exact ⟨d,HY.out⟩⟩
     case measure=>simp [intOf];omega
    | some c0=>
     obtain ⟨e,he⟩:=J.out c0 rfl;have i8:=far_some hF1 he;by_cases f4:d<e
     ·have O:Hid (some y=BL F (fm.take (k+1)) none):=by show _=_;rw [z.out,bestS_new I he (.inl f4)]
      have HY:=zh I;clear I;clear he;go_wp2;go_roundw
      case rel=>exact ⟨k+1,some y,by omega,by go_num,by trivial,rfl,rfl,O,fun c e=>by injection e with e;subst e;exact ⟨d,HY.out⟩⟩
      case measure=>simp [intOf];omega
     ·by_cases c6:d=e
      ·subst c6;by_cases f9:y<c0
       ·have O:Hid (some y=BL F (fm.take (k+1)) none):=by show _=_;rw [z.out,bestS_new I he (.inr ⟨rfl,f9⟩)]
        have HY:=zh I;clear I;clear he;go_wp2;go_roundw
        case rel=>exact ⟨k+1,some y,by omega,by go_num,by trivial,rfl,rfl,O,fun c e=>by injection e with e;subst e;exact ⟨d,HY.out⟩⟩
        case measure=>simp [intOf];omega
       ·have O:Hid (some c0=BL F (fm.take (k+1)) none):=by show _=_;rw [z.out,bestS_old I he (by omega)]
        clear I he;go_wp2;go_roundw
        case rel=>exact ⟨k+1,some c0,by omega,by go_num,by trivial,rfl,rfl,O,J⟩
        case measure=>simp [intOf];omega
      ·have O:Hid (some c0=BL F (fm.take (k+1)) none):=by show _=_;rw [z.out,bestS_old I he (by omega)]
       have g5:(d==e)=false:=by simpa using c6
       clear I he;go_wp2;go_roundw
       case rel=>exact ⟨k+1,some c0,by omega,by go_num,by trivial,rfl,rfl,O,J⟩
       case measure=>simp [intOf];omega
  ·obtain rfl:k=fm.length:=by omega
   have V:Hid (bo=BL F fm none):=by have:=a6.out;rwa [ER] at this
   clear a6 a8 hk
   cases bo with
   | none=>
    have hd:CE m F fm=none:=by unfold CE;rw [<-V.out];rfl
    have HD:=zh hd;clear hd;go_wp2
    go_ret2
    rw [HD.out];exact ⟨_,rfl,Mk.nil' M⟩
   | some b0=>
    obtain ⟨d,a7⟩:=J.out b0 rfl;have i2:=T.out.dist G.out a7;obtain ⟨f,rfl⟩:∃f:Nat,d=(f:Int):=⟨d.toNat,by omega⟩;have c5:CE m F fm=some (Cx m F f b0):=by unfold CE;rw [<-V.out,Option.map_some,a7];rfl
    have HD:=zh c5;clear c5 V J;have e3:Hid (F.lookup b0=some (f:Int)):=a7;clear a7
    go_wp2_with fail
    obtain ⟨b9,r6⟩:=box1 w1 (.int .i64 b0) 3;have hO:Hid (Mk w1 (w1.alloc (.cells #[.int .i64 b0] 3)) (.slice (some ⟨w1.heap.size,0,none⟩) 1 1) ([]++[b0])):=⟨ownOne w1 w1.heap.size 3 (.int .i64 b0) (EG _),b9⟩;clear b9 r6
    go_loopg [8,14] f (fun r b v wr=>∃pre cur,b=.int .i64 cur/\Hid (Mk w1 wr v (pre++[cur]))/\Hid (F.lookup cur=some (r:Int))/\Hid (pre++Cx m F r cur=Cx m F f b0)/\pre.length+r=f)
    case atStart=>exact ⟨[],b0,rfl,hO,e3,rfl,by simp⟩
    clear hO
    case round=>
     obtain ⟨pre,cur,rfl,hM,a1,heq,g6⟩:=hrel;have hx:zb w1 wr:=hM.out.ext;have b7:BS wr gf F:=hF1.below hx;obtain ⟨wk,rfl⟩:∃wk:World,wk=wr:=⟨_,rfl⟩;have a0:=far_some b7 a1.out
     cases gk with
     | zero=>
      have f0:(((0:Nat):Int))=0:=rfl;rw [f0] at a0;have HE:Hid (pre++[cur]=Cx m F f b0):=heq.out;clear heq;go_wp2
      go_ret2
      rw [HD.out];exact ⟨_,rfl,M.mono_mk (hM.out.cast HE.out.symm)⟩
     | succ r=>
      have E:F.lookup cur=some ((r:Int)+1):=by have:=a1.out;rw [this];congr 1
      have L:=(T.out.rg _ (Aj E)).1;simp only at L;have f7:=T.out.dist G.out E;obtain ⟨i0,i5,c8,c9⟩:=downN_at G.out.dim T.out E;obtain ⟨b1,c4⟩:=downN_ok G.out.dim T.out E;have e1:((r+1:Nat):Int)=(r:Int)+1:=by omega
      rw [e1] at a0;have g8:(0:Int)<(r:Int)+1:=by omega
      have j1:IntKind.i64.wrap ((r:Int)+1 - 1)=(r:Int):=by rw [Fb];omega
      have h4:IntKind.i64.wrap (r:Int)=(r:Int):=by rw [Fb];omega
      have HN:Hid (AR m cur=zl m cur):=by show _=_;unfold AR;rw [if_pos ⟨HC.out,L.1,L.2⟩]
      have HQ:Hid ((pre++[cur])++Cx m F r (CU m F cur)=Cx m F f b0):=by
       show _=_;have e2:Cx m F (r+1) cur=cur :: Cx m F r (CU m F cur):=rfl;have:=heq.out;rw [e2] at this;rw [<-this];simp
      have e4:=zh c9;have e6:=zh E;have b3:=zh b1;have e5:=zh c8;clear a1 E heq L c9 b1 c4 c8
      go_wp2_with fail
      refine (Et cur wk (e7.out.below (M.trans hx)) HL.out).mono ?_;rintro e w2 ⟨vn,rfl,b8⟩;have U:Hid (Mk wk w2 vn (zl m cur)):=by have:=b8;rw [HN.out] at this;exact this
      clear b8 HN;have a4:=zh (hM.out.more U.out.ext);have b4:zb w1 w2:=a4.out.ext;have a5:BS w2 gf F:=hF1.below b4;obtain ⟨A2,c2,rfl,h9,d7⟩:=U.out.ints;have e9:=zh d7;have i7:=Bc m cur;have g7:=far_some a5 e6.out;clear d7 U hM hx b7 a0
      go_wp2_with fail
      go_loopw [8,69] (fun b i wz=>∃j,j<=i0/\b=.int .i64 cur/\i=.int .i64 (j:Nat)/\w2=wz) (fun _ i _=>i0 - (intOf i).toNat)
      case atStart=>exact ⟨0,EU _,rfl,rfl,rfl⟩
      case round=>
       obtain ⟨j,hj,rfl,rfl,rfl⟩:=hrel;have d4:j<(zl m cur).length:=by omega
       obtain ⟨b2,off2,rfl,_,D⟩:=zy e9.out d4 d4;by_cases f5:j<i0
       ·have a9:=e4.out j f5;obtain ⟨x,a3⟩:=zad ((zl m cur)[j]);rw [<-a3] at D a9;clear a3
        cases a2:F.lookup x with
        | none=>
         have d5:=DU a5 a2;clear a2 a9;go_wp2;go_roundw
         case rel=>exact ⟨j+1,by omega,by trivial,by go_num,by trivial⟩
         case measure=>simp [intOf];omega
        | some dx=>
         have d5:=Do a5 a2
         have j0:(dx==(r:Int))=false:=by
          rw [ET];intro e;exact a9 (by rw [a2,e])
         clear a2 a9;go_wp2;go_roundw
         case rel=>exact ⟨j+1,by omega,by trivial,by go_num,by trivial⟩
         case measure=>simp [intOf];omega
       ·obtain rfl:j=i0:=by omega
        rw [e5.out] at D;obtain ⟨x,a3⟩:=zad (CU m F cur);rw [<-a3] at D b3 HQ;clear a3;have d5:=Do a5 b3.out;have f8:((r:Int)==(r:Int))=true:=by simp
        have f6:(pre++[cur]).length<=1000000:=by simp;omega
        obtain ⟨l,hl⟩:=zad (pre++[cur]);rw [<-hl] at a4 HQ f6;have i9:l.length=pre.length+1:=by rw [hl];simp
        clear hl
        go_wp2_with (at_builtin;refine AQ rfl _ _ rfl _ l x w1.heap.size w2.heap.size 1 _ rfl rfl (a4.out.own.alloc _) ?d1 ?d2 ?d3 ?_)
        (try case d1=>exact zr _ _ _ (by simp))
        case d2=>(first | (simp;done) | (have:=b4.size;simp;omega) | (have:=b4.size;omega))
        case d3=>omega
        intro v' wb d6 c7 f2;have f1:=zh ((a4.out.alloc _).app d6 c7);clear d6 c7 f2;go_wp2
        go_roundg r
        case measure=>omega
        case rel=>exact ⟨l,x,rfl,f1,b3,HQ,by omega⟩
end
end Go.Proofs.YthbjngbhbbkkgaaGreat
