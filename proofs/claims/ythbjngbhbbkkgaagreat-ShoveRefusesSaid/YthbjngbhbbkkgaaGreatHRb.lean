import Derived.Test.YthbjngbhbbkkgaaGreatHRa
import Derived.Deep.DeepCutAuto
import Derived.Deep.AppendLies
import Derived.Deep.Onto
set_option linter.unusedVariables false
set_option linter.unusedSimpArgs false
set_option maxRecDepth 100000
set_option maxHeartbeats 16000000
namespace Go.Proofs.YthbjngbhbbkkgaaGreat
variable {cs:Array Value} {x y:Int} {from_ l used:List Int} {B g gb k t:Nat} {v:Value} {w w' w0:World}
section
open Go.RowKit
theorem Tryz.infoInt:(Tryz.prog.info? 3).map (fun i=>(i.zero,i.size,i.bytes))=some (some (.int .i64 0),1,8):=by kernel_rfl
def ap (c:Bool) (x:Int) (l:List Int):List Int:=if c then l++[x] else l
theorem ap_len (c:Bool) (x:Int) (l:List Int):(ap c x l).length<=l.length+1:=by
 unfold ap;split <;> simp
theorem map_snoc (l:List Int) (x:Int):(l++[x]).map (Value.int .i64)=l.map (Value.int .i64)++[.int .i64 x]:=by simp
def zk (w:World) (g:Nat) (t:TypeId) (cs:Array Value):Prop:=w.heap[g]?=some (.cells cs t (0,0))
theorem zk.ne_ {g':Nat} {t t':TypeId} {cs':Array Value} (h:zk w g t cs) (o:zk w g' t' cs') (z:t≠t'):g≠g':=by
 rintro rfl;unfold zk at h o;rw [h] at o;injection o with o;injection o with _ D;exact z D
theorem zm {base:Nat} {e:TypeId} {size n:Nat} {xs:List Value} {t:TypeId} (h:w.ownsRow base e size v n xs) (z:zk w g t cs) (o:e≠t):v.ownBlock≠some g:=by
 rcases h.2 with ⟨rfl,_⟩ | ⟨g',cap,cur,rfl,_,D,_⟩
 ·simp [Value.ownBlock]
 ·intro he;have:g'=g:=by simpa [Value.ownBlock] using he
  subst this;exact zk.ne_ (t:=e) D z o rfl
def Acc (w0 w:World) (B gb:Nat) (l:List Int):Prop:=
 ∃v,zk w gb 23 #[v]/\w.ownsRow B 3 1 v l.length (l.map (Value.int .i64))/\B<=gb/\Below B w0 w
theorem wpApp1 {ops:Array Oper} {rest:List Oper} {o:Oper} {a:Act} {Q:Exit->Act->World->Prop} (E:o.guard=none) (s y:Operand)
  (T:o.op=.call { callee:=.builtin .append,args:=#[s,y],argTypes:=#[23,23] }) (W:World) (l:List Int) (x:Int) (B g c:Nat) (v:Value) (U:a.eval s=v)
  (V:a.eval y=.slice (some ⟨g,0,none⟩) 1 c) (z:W.ownsRow B 3 1 v l.length (l.map (Value.int .i64))) (M:W.cell? ⟨g,0,none⟩=some (.int .i64 x)) (L:B<=W.heap.size) (hl:l.length<=1000000000000)
  (h:∀v' w',w'.ownsRow B 3 1 v' (l++[x]).length ((l++[x]).map (Value.int .i64))->W.grownBy w' v.ownBlock->wpList Tryz.prog ops Q rest (a.put o.dst v') w'):wpList Tryz.prog ops Q (o :: rest) a W:=by
 obtain ⟨i0,O,G,I,J⟩:=info_parts Tryz.infoInt;refine wpList_append_own _ E _ _ 23 T B 3 i0 (.int .i64 0) 1 8 Tryz.underlying23 O G I J rfl (by decide) _ _ _ U z ⟨g,0,none⟩ 1 c [.int .i64 x] V rfl ?_ ?_ ?_ ?_ L ?_
 ·intro j u D
  match j,D with
  | 0,D=>
   have:u=.int .i64 x:=by simpa using D.symm
   rw [this];exact M
 ·intro u D;have:u=.int .i64 x:=by simpa using D
  rw [this];rfl
 ·unfold maxLen;omega
 ·omega
 ·intro v' w' h1 h2 _;refine h v' w' ?_ h2;rw [map_snoc,EO];exact h1
theorem add_calls (w0 w:World) (B gb:Nat) (l:List Int) (c:Bool) (x:Int) (h:Acc w0 w B gb l) (hl:l.length<=1000) (hB:B<=w0.heap.size):
  Calls Tryz.prog 80 #[.bool c,.int .i64 x,.pointer (some ⟨gb,0,none⟩)] w fun e w'=>e=.returned (.tuple #[])/\Acc w0 w' B gb (ap c x l):=by
 have G:=h;obtain ⟨v,M,D,J,U⟩:=h
 cases c with
 | false=>
  go_enter Tryz.func80,Tryz.ntmps80
  go_wp2
  go_end0
  exact ⟨rfl,G⟩
 | true=>
  have V:w.cell? ⟨gb,0,none⟩=some v:=by unfold World.cell?;simp only [show w.heap[gb]?=_ from M];rfl
  have a3:=zm D M (by decide);have a2:gb<w.heap.size:=zd M;have T:B<=w.heap.size:=EI hB U.size;have HG:=zh M;clear M;have HB:=zh U;clear U;clear G
  go_enter Tryz.func80,Tryz.ntmps80
  go_wp2_with (at_builtin;refine wpApp1 rfl _ _ rfl _ l x B w.heap.size 1 v rfl rfl (D.alloc _) ?c1 ?c2 ?c3 ?_)
  case c1=>simp
  case c2=>simp;omega
  case c3=>omega
  intro v' w1 z o;obtain ⟨g',cap',rfl,a1,a0⟩:=z.form (by simp);have E:zk w1 gb 23 #[v]:=(o.block gb (by simp;omega) (fun e=>a3 e.symm)).trans ((EY w _ gb a2).trans HG.out);have O:w1.cell? ⟨gb,0,none⟩=some v:=by unfold World.cell?;simp only [show w1.heap[gb]?=_ from E];rfl
  have hfz:w1.frozen? ⟨gb,0,none⟩=false:=by unfold World.frozen?;simp [show w1.heap[gb]?=_ from E]
  have I:=zh E;clear E;have Q:=zh o;clear o;have HO:=zh z;clear z;clear a1 a0;go_wp2
  go_end0
  have L:Below B w0 w1:=(HB.out.alloc T _).grown Q.out (by simp;omega) (fun k hk=>by
   have:=(D.lt k hk).1;omega)
  refine ⟨rfl,.slice (some ⟨g',0,none⟩) (l++[x]).length cap',?_,?_,J,L.setCell J _⟩
  ·have:=I.out;unfold zk at this⊢;simp [World.setCell,Array.getElem?_modify,this]
  ·have h:=ownsRow_setCell_other (a:=⟨gb,0,none⟩) HO.out (zm (t:=23) HO.out I.out (by decide)) (.slice (some ⟨g',0,none⟩) (l++[x]).length cap');simpa [ap] using h
def AccK (w0 w:World) (B gb k:Nat) (l:List Int):Prop:=Acc w0 w B gb l/\l.length<=k/\B<=w0.heap.size
theorem addK (w0 w:World) (B gb k:Nat) (l:List Int) (c:Bool) (x:Int) (h:AccK w0 w B gb k l) (D:k<=1000):
  Calls Tryz.prog 80 #[.bool c,.int .i64 x,.pointer (some ⟨gb,0,none⟩)] w fun e w'=>e=.returned (.tuple #[])/\AccK w0 w' B gb (k+1) (ap c x l):=by
 obtain ⟨h,E,o⟩:=h;refine (add_calls w0 w B gb l c x h (by omega) o).mono ?_;rintro e w' ⟨rfl,z⟩;exact ⟨rfl,z,by have:=ap_len c x l;omega,o⟩
theorem AccK.below (h:AccK w0 w B gb k l):Below B w0 w:=by
 obtain ⟨⟨v,_,_,_,o⟩,_,_⟩:=h;exact o
theorem zA {t:TypeId} {a0 a1 a2 a3 a4 a5:Value} (h:zk w g t #[a0,a1,a2,a3,a4,a5]):
  w.cell? ⟨g,0,none⟩=some a0/\w.cell? ⟨g,1,none⟩=some a1/\w.cell? ⟨g,2,none⟩=some a2/\w.cell? ⟨g,3,none⟩=some a3/\w.cell? ⟨g,4,none⟩=some a4/\w.cell? ⟨g,5,none⟩=some a5:=by
 unfold zk at h;unfold World.cell?;simp only [h];exact ⟨rfl,rfl,rfl,rfl,rfl,rfl⟩
theorem zk.below {t:TypeId} (h:zk w g t cs) (o:Below B w w') (z:g<B):zk w' g t cs:=(o.block g z).trans h
theorem zk.alloc {w:World} {g:Nat} {t:TypeId} {cs:Array Value} (h:zk w g t cs) (o:Obj):zk (w.alloc o) g t cs:=(EY w o g (zd h)).trans h
theorem Acc.new (w1:World):AccK w1 (w1.alloc (.cells #[.slice none 0 0] 23)) w1.heap.size w1.heap.size 0 []:=
 ⟨⟨.slice none 0 0,Fu _ _,(World.ownsRow_nil _ _ _ _),EG _,(Below.refl _ _).alloc (EG _) _⟩,EG _,EG _⟩
theorem AccK.end_ (h:AccK w0 w B gb k l):∃v,w.cell? ⟨gb,0,none⟩=some v/\w.ownsRow B 3 1 v l.length (l.map (Value.int .i64)):=by
 obtain ⟨⟨v,o,z,_,_⟩,_,_⟩:=h;refine ⟨v,?_,z⟩;unfold zk at o;unfold World.cell?;simp only [o];rfl
theorem AccK.more (h:AccK w0 w B gb k l) (o:Below w.heap.size w w'):AccK w0 w' B gb k l:=by
 obtain ⟨⟨v,G,L,z,D⟩,J,E⟩:=h;exact ⟨⟨v,(o.block gb (zd G)).trans G,L.kept (row:=none) ⟨o.os,o.tape,o.output,o.size,fun i I _=>o.block i I⟩ (by cases h:v.ownBlock <;> simp),z,BC D o E⟩,J,E⟩
theorem next_fin {l':List Int} (h:w.ownsRow B 3 1 v l.length (l.map (Value.int .i64))) (e:l'=l):w.ownsRow B 3 1 v l'.length (l'.map (Value.int .i64)):=by
 rw [e];exact h
def zl (m:MZ) (node:Int):List Int:=
 ap (decide (node+m.w*m.h<m.w*m.h*m.l) && m.up.getD node.toNat false) (node+m.w*m.h)
  (ap (decide (node / m.w % m.h+1<m.h)) (node+m.w)
   (ap (decide (node % m.w+1<m.w)) (node+1)
    (ap (decide (0<node % m.w)) (node - 1)
     (ap (decide (0<node / m.w % m.h)) (node - m.w)
      (ap (decide (m.w*m.h<=node) && m.up.getD (node - m.w*m.h).toNat false) (node - m.w*m.h) [])))))
structure Ex (m:MZ):Prop where
 w1:1<=m.w
 w2:m.w<=300
 h1:1<=m.h
 h2:m.h<=300
 l1:1<=m.l
 l2:m.l<=300
 n1:m.w*m.h*m.l<=300
 up:(m.up.length:Int)=m.w*m.h*m.l
theorem Ex.layer {m:MZ} (d:Ex m):1<=m.w*m.h/\m.w*m.h<=m.w*m.h*m.l:=by
 have h1:1<=m.w*m.h:=by
  have:=Int.mul_le_mul d.w1 d.h1 (by omega) (by have:=d.w1;omega);omega
 refine ⟨h1,?_⟩;have:=Int.mul_le_mul_of_nonneg_left d.l1 (show 0<=m.w*m.h by omega);omega
theorem next_eq (m:MZ) (node:Int) (b1 b2:Bool) (h1:b1=(decide (m.w*m.h<=node) && m.up.getD (node - m.w*m.h).toNat false)) (h2:b2=(decide (node+m.w*m.h<m.w*m.h*m.l) && m.up.getD node.toNat false)):
  zl m node=ap b2 (node+m.w*m.h) (ap (decide (node / m.w % m.h+1<m.h)) (node+m.w) (ap (decide (node % m.w+1<m.w)) (node+1) (ap (decide (0<node % m.w)) (node - 1) (ap (decide (0<node / m.w % m.h)) (node - m.w) (ap b1 (node - m.w*m.h) []))))):=by
 rw [h1,h2];rfl
theorem up_true {p:Prop} [Decidable p] {up:List Bool} (hp:p) (h:k<up.length):up[k]=(decide p && up.getD k false):=by
 simp [hp,h]
theorem up_false {p:Prop} [Decidable p] {b:Bool} (hp:¬ p):false=(decide p && b):=by simp [hp]
theorem Du {ok:Nat->Prop} (m:MZ) (node:Int) (w:World) (hm:zw w ok v m) (d:Ex m) (h0:0<=node) (h1:node<m.w*m.h*m.l):
  Calls Tryz.prog 44 #[v,.int .i64 node] w fun e w'=>∃v',e=.returned v'/\Below w.heap.size w w'/\w'.ownsRow w.heap.size 3 1 v' (zl m node).length ((zl m node).map (Value.int .i64)):=by
 obtain ⟨f,u,t,rfl,_,hu,_⟩:=hm;obtain ⟨A,c,rfl,c6,c4⟩:=hu;have hl:=d.layer;obtain ⟨d4,d5⟩:=hl;obtain ⟨w1,w2,c7,c8,ll1,ll2,n1,c0⟩:=d;obtain ⟨W,H,L,fr,up,ts⟩:=m;simp only at*;have HU:=zh c4;clear c4;have b4:=zh c0;clear c0
 go_enter Tryz.func44,Tryz.ntmps44
 have d6:0<=node / W:=Int.ediv_nonneg h0 (by omega);have d7:node / W<=node:=Int.ediv_le_self _ h0
 go_wp2_with fail
 go_quiet (fail)
 have d8:0<=node / W % H:=Int.emod_nonneg _ (by omega);have d9:node / W % H<H:=Int.emod_lt_of_pos _ (by omega);have e0:0<=node % W:=Int.emod_nonneg _ (by omega);have e3:node % W<W:=Int.emod_lt_of_pos _ (by omega);generalize b7:((w.alloc (.cells #[.int .i64 W,.int .i64 H,.int .i64 L,f,.slice A up.length c,t] 32)).drewN nq)=w1;have O:Below w.heap.size w w1:=by rw [<-b7];exact CS ((Below.refl _ _).alloc (EG _) _) _
 have b9:zk w1 w.heap.size 32 #[.int .i64 W,.int .i64 H,.int .i64 L,f,.slice A up.length c,t]:=by rw [<-b7];exact Fu _ _
 have b3:=zh (HU.out.keep (zW.of_below O):Ae w1 ok 1 A up.length (up.map Value.bool));clear b7 HU;have J:=zh b9;clear b9;have Q:=zh O;clear O;by_cases hA:W*H<=node
 ·by_cases hB:node+W*H<W*H*L
  ·have V:(node - W*H).toNat<up.length:=by have:=b4.out;omega
   obtain ⟨b,off,a7,_,G⟩:=Cj b3.out V V;have z:=zo G;have a0:node.toNat<up.length:=by have:=b4.out;omega
   obtain ⟨b',off',b0,_,I⟩:=Cj b3.out a0 a0;obtain ⟨rfl,rfl⟩:b=b'/\off=off':=by rw [a7] at b0;simpa using b0
   clear b0;subst a7;obtain ⟨b1,O⟩:=zad (up[(node - W*H).toNat]);rw [<-O] at G;have a8:=zh O;clear O;obtain ⟨b2,T⟩:=zad (up[node.toNat]);rw [<-T] at I;have a9:=zh T;clear T;have D:w.heap.size<w1.heap.size:=zd J.out;have E:=fun o=>zA (J.out.alloc o)
   obtain ⟨m0,m1,m2,m3,m4,m5⟩:(∀o,(w1.alloc o).cell? ⟨w.heap.size,0,none⟩=_)/\(∀o,(w1.alloc o).cell? ⟨w.heap.size,1,none⟩=_)/\(∀o,(w1.alloc o).cell? ⟨w.heap.size,2,none⟩=_)/\(∀o,(w1.alloc o).cell? ⟨w.heap.size,3,none⟩=_)/\(∀o,(w1.alloc o).cell? ⟨w.heap.size,4,none⟩=_)/\(∀o,(w1.alloc o).cell? ⟨w.heap.size,5,none⟩=_):=⟨fun o=>(E o).1,fun o=>(E o).2.1,fun o=>(E o).2.2.1,fun o=>(E o).2.2.2.1,fun o=>(E o).2.2.2.2.1,fun o=>(E o).2.2.2.2.2⟩;clear E;have u1:∀o,(w1.alloc o).cell? ⟨b,off+(node - W*H).toNat,none⟩=_:=fun o=>(World.cell?_alloc_lt w1 o ⟨b,off+(node - W*H).toNat,none⟩ z).trans G
   have u2:∀o,(w1.alloc o).cell? ⟨b,off+node.toNat,none⟩=_:=fun o=>(World.cell?_alloc_lt w1 o ⟨b,off+node.toNat,none⟩ z).trans I
   go_wp2_with fail
   refine (addK w1 _ w1.heap.size w1.heap.size 0 _ _ _ (Acc.new w1) (by omega)).mono ?_;rintro e k1 ⟨rfl,a1⟩;clear m0 m1 m2 m3 m4 m5 u1 u2;obtain ⟨m0,m1,m2,m3,m4,m5⟩:=zA (J.out.below a1.below D);have u1:=(a1.below.cell (p:=⟨b,off+(node - W*H).toNat,none⟩) z).trans G;have u2:=(a1.below.cell (p:=⟨b,off+node.toNat,none⟩) z).trans I
   go_wp2_with fail
   refine (addK w1 _ w1.heap.size w1.heap.size 1 _ _ _ (a1) (by omega)).mono ?_;rintro e k2 ⟨rfl,a2⟩;clear m0 m1 m2 m3 m4 m5 u1 u2;obtain ⟨m0,m1,m2,m3,m4,m5⟩:=zA (J.out.below a2.below D);have u1:=(a2.below.cell (p:=⟨b,off+(node - W*H).toNat,none⟩) z).trans G;have u2:=(a2.below.cell (p:=⟨b,off+node.toNat,none⟩) z).trans I
   go_wp2_with fail
   refine (addK w1 _ w1.heap.size w1.heap.size 2 _ _ _ (a2) (by omega)).mono ?_;rintro e k3 ⟨rfl,a3⟩;clear m0 m1 m2 m3 m4 m5 u1 u2;obtain ⟨m0,m1,m2,m3,m4,m5⟩:=zA (J.out.below a3.below D);have u1:=(a3.below.cell (p:=⟨b,off+(node - W*H).toNat,none⟩) z).trans G;have u2:=(a3.below.cell (p:=⟨b,off+node.toNat,none⟩) z).trans I
   go_wp2_with fail
   refine (addK w1 _ w1.heap.size w1.heap.size 3 _ _ _ (a3) (by omega)).mono ?_;rintro e k4 ⟨rfl,a4⟩;clear m0 m1 m2 m3 m4 m5 u1 u2;obtain ⟨m0,m1,m2,m3,m4,m5⟩:=zA (J.out.below a4.below D);have u1:=(a4.below.cell (p:=⟨b,off+(node - W*H).toNat,none⟩) z).trans G;have u2:=(a4.below.cell (p:=⟨b,off+node.toNat,none⟩) z).trans I
   go_wp2_with fail
   refine (addK w1 _ w1.heap.size w1.heap.size 4 _ _ _ (a4) (by omega)).mono ?_;rintro e k5 ⟨rfl,a5⟩;clear m0 m1 m2 m3 m4 m5 u1 u2;obtain ⟨m0,m1,m2,m3,m4,m5⟩:=zA (J.out.below a5.below D);have u1:=(a5.below.cell (p:=⟨b,off+(node - W*H).toNat,none⟩) z).trans G;have u2:=(a5.below.cell (p:=⟨b,off+node.toNat,none⟩) z).trans I
   go_wp2_with fail
   refine (AC W H L _ _ _ _ (by omega) (by omega)).mono ?_;rintro e kn ⟨rfl,U⟩;have a5:=a5.more U;clear m0 m1 m2 m3 m4 m5 u1 u2;obtain ⟨m0,m1,m2,m3,m4,m5⟩:=zA (J.out.below a5.below D);have u1:=(a5.below.cell (p:=⟨b,off+(node - W*H).toNat,none⟩) z).trans G;have u2:=(a5.below.cell (p:=⟨b,off+node.toNat,none⟩) z).trans I
   go_wp2_with fail
   refine (addK w1 _ w1.heap.size w1.heap.size 5 _ _ _ (a5) (by omega)).mono ?_;rintro e k6 ⟨rfl,a6⟩;clear m0 m1 m2 m3 m4 m5 u1 u2;obtain ⟨m0,m1,m2,m3,m4,m5⟩:=zA (J.out.below a6.below D);have u1:=(a6.below.cell (p:=⟨b,off+(node - W*H).toNat,none⟩) z).trans G;have u2:=(a6.below.cell (p:=⟨b,off+node.toNat,none⟩) z).trans I;obtain ⟨vf,b6,M⟩:=a6.end_;have HO:=zh M;clear M
   go_wp2_with fail
   go_ret;refine ⟨vf,rfl,BC Q.out (Below.mono a6.below (EG _)) (EG _),?_⟩;exact next_fin (HO.out.mono Q.out.size) (next_eq _ _ _ _ (by rw [a8.out];exact up_true hA V) (by rw [a9.out];exact up_true hB a0))
  ·have V:(node - W*H).toNat<up.length:=by have:=b4.out;omega
   obtain ⟨b,off,a7,_,G⟩:=Cj b3.out V V;have z:=zo G;subst a7;obtain ⟨b1,O⟩:=zad (up[(node - W*H).toNat]);rw [<-O] at G;have a8:=zh O;clear O;have D:w.heap.size<w1.heap.size:=zd J.out;have E:=fun o=>zA (J.out.alloc o)
   obtain ⟨m0,m1,m2,m3,m4,m5⟩:(∀o,(w1.alloc o).cell? ⟨w.heap.size,0,none⟩=_)/\(∀o,(w1.alloc o).cell? ⟨w.heap.size,1,none⟩=_)/\(∀o,(w1.alloc o).cell? ⟨w.heap.size,2,none⟩=_)/\(∀o,(w1.alloc o).cell? ⟨w.heap.size,3,none⟩=_)/\(∀o,(w1.alloc o).cell? ⟨w.heap.size,4,none⟩=_)/\(∀o,(w1.alloc o).cell? ⟨w.heap.size,5,none⟩=_):=⟨fun o=>(E o).1,fun o=>(E o).2.1,fun o=>(E o).2.2.1,fun o=>(E o).2.2.2.1,fun o=>(E o).2.2.2.2.1,fun o=>(E o).2.2.2.2.2⟩;clear E;have u1:∀o,(w1.alloc o).cell? ⟨b,off+(node - W*H).toNat,none⟩=_:=fun o=>(World.cell?_alloc_lt w1 o ⟨b,off+(node - W*H).toNat,none⟩ z).trans G
   go_wp2_with fail
   refine (addK w1 _ w1.heap.size w1.heap.size 0 _ _ _ (Acc.new w1) (by omega)).mono ?_;rintro e k1 ⟨rfl,a1⟩;clear m0 m1 m2 m3 m4 m5 u1;obtain ⟨m0,m1,m2,m3,m4,m5⟩:=zA (J.out.below a1.below D);have u1:=(a1.below.cell (p:=⟨b,off+(node - W*H).toNat,none⟩) z).trans G
   go_wp2_with fail
   refine (addK w1 _ w1.heap.size w1.heap.size 1 _ _ _ (a1) (by omega)).mono ?_;rintro e k2 ⟨rfl,a2⟩;clear m0 m1 m2 m3 m4 m5 u1;obtain ⟨m0,m1,m2,m3,m4,m5⟩:=zA (J.out.below a2.below D);have u1:=(a2.below.cell (p:=⟨b,off+(node - W*H).toNat,none⟩) z).trans G
   go_wp2_with fail
   refine (addK w1 _ w1.heap.size w1.heap.size 2 _ _ _ (a2) (by omega)).mono ?_;rintro e k3 ⟨rfl,a3⟩;clear m0 m1 m2 m3 m4 m5 u1;obtain ⟨m0,m1,m2,m3,m4,m5⟩:=zA (J.out.below a3.below D);have u1:=(a3.below.cell (p:=⟨b,off+(node - W*H).toNat,none⟩) z).trans G
   go_wp2_with fail
   refine (addK w1 _ w1.heap.size w1.heap.size 3 _ _ _ (a3) (by omega)).mono ?_;rintro e k4 ⟨rfl,a4⟩;clear m0 m1 m2 m3 m4 m5 u1;obtain ⟨m0,m1,m2,m3,m4,m5⟩:=zA (J.out.below a4.below D);have u1:=(a4.below.cell (p:=⟨b,off+(node - W*H).toNat,none⟩) z).trans G
   go_wp2_with fail
   refine (addK w1 _ w1.heap.size w1.heap.size 4 _ _ _ (a4) (by omega)).mono ?_;rintro e k5 ⟨rfl,a5⟩;clear m0 m1 m2 m3 m4 m5 u1;obtain ⟨m0,m1,m2,m3,m4,m5⟩:=zA (J.out.below a5.below D);have u1:=(a5.below.cell (p:=⟨b,off+(node - W*H).toNat,none⟩) z).trans G
   go_wp2_with fail
   refine (AC W H L _ _ _ _ (by omega) (by omega)).mono ?_;rintro e kn ⟨rfl,U⟩;have a5:=a5.more U;clear m0 m1 m2 m3 m4 m5 u1;obtain ⟨m0,m1,m2,m3,m4,m5⟩:=zA (J.out.below a5.below D);have u1:=(a5.below.cell (p:=⟨b,off+(node - W*H).toNat,none⟩) z).trans G
   go_wp2_with fail
   refine (addK w1 _ w1.heap.size w1.heap.size 5 _ _ _ (a5) (by omega)).mono ?_;rintro e k6 ⟨rfl,a6⟩;clear m0 m1 m2 m3 m4 m5 u1;obtain ⟨m0,m1,m2,m3,m4,m5⟩:=zA (J.out.below a6.below D);have u1:=(a6.below.cell (p:=⟨b,off+(node - W*H).toNat,none⟩) z).trans G;obtain ⟨vf,b6,M⟩:=a6.end_;have HO:=zh M;clear M
   go_wp2_with fail
   go_ret;refine ⟨vf,rfl,BC Q.out (Below.mono a6.below (EG _)) (EG _),?_⟩;exact next_fin (HO.out.mono Q.out.size) (next_eq _ _ _ _ (by rw [a8.out];exact up_true hA V) (up_false (Int.not_lt.2 hB)))
 ·by_cases hB:node+W*H<W*H*L
  ·have a0:node.toNat<up.length:=by have:=b4.out;omega
   obtain ⟨b,off,a7,_,I⟩:=Cj b3.out a0 a0;have z:=zo I;subst a7;obtain ⟨b2,T⟩:=zad (up[node.toNat]);rw [<-T] at I;have a9:=zh T;clear T;have D:w.heap.size<w1.heap.size:=zd J.out;have E:=fun o=>zA (J.out.alloc o)
   obtain ⟨m0,m1,m2,m3,m4,m5⟩:(∀o,(w1.alloc o).cell? ⟨w.heap.size,0,none⟩=_)/\(∀o,(w1.alloc o).cell? ⟨w.heap.size,1,none⟩=_)/\(∀o,(w1.alloc o).cell? ⟨w.heap.size,2,none⟩=_)/\(∀o,(w1.alloc o).cell? ⟨w.heap.size,3,none⟩=_)/\(∀o,(w1.alloc o).cell? ⟨w.heap.size,4,none⟩=_)/\(∀o,(w1.alloc o).cell? ⟨w.heap.size,5,none⟩=_):=⟨fun o=>(E o).1,fun o=>(E o).2.1,fun o=>(E o).2.2.1,fun o=>(E o).2.2.2.1,fun o=>(E o).2.2.2.2.1,fun o=>(E o).2.2.2.2.2⟩;clear E;have u2:∀o,(w1.alloc o).cell? ⟨b,off+node.toNat,none⟩=_:=fun o=>(World.cell?_alloc_lt w1 o ⟨b,off+node.toNat,none⟩ z).trans I
   go_wp2_with fail
   refine (addK w1 _ w1.heap.size w1.heap.size 0 _ _ _ (Acc.new w1) (by omega)).mono ?_;rintro e k1 ⟨rfl,a1⟩;clear m0 m1 m2 m3 m4 m5 u2;obtain ⟨m0,m1,m2,m3,m4,m5⟩:=zA (J.out.below a1.below D);have u2:=(a1.below.cell (p:=⟨b,off+node.toNat,none⟩) z).trans I
   go_wp2_with fail
   refine (addK w1 _ w1.heap.size w1.heap.size 1 _ _ _ (a1) (by omega)).mono ?_;rintro e k2 ⟨rfl,a2⟩;clear m0 m1 m2 m3 m4 m5 u2;obtain ⟨m0,m1,m2,m3,m4,m5⟩:=zA (J.out.below a2.below D);have u2:=(a2.below.cell (p:=⟨b,off+node.toNat,none⟩) z).trans I
   go_wp2_with fail
   refine (addK w1 _ w1.heap.size w1.heap.size 2 _ _ _ (a2) (by omega)).mono ?_;rintro e k3 ⟨rfl,a3⟩;clear m0 m1 m2 m3 m4 m5 u2;obtain ⟨m0,m1,m2,m3,m4,m5⟩:=zA (J.out.below a3.below D);have u2:=(a3.below.cell (p:=⟨b,off+node.toNat,none⟩) z).trans I
   go_wp2_with fail
   refine (addK w1 _ w1.heap.size w1.heap.size 3 _ _ _ (a3) (by omega)).mono ?_;rintro e k4 ⟨rfl,a4⟩;clear m0 m1 m2 m3 m4 m5 u2;obtain ⟨m0,m1,m2,m3,m4,m5⟩:=zA (J.out.below a4.below D);have u2:=(a4.below.cell (p:=⟨b,off+node.toNat,none⟩) z).trans I
   go_wp2_with fail
   refine (addK w1 _ w1.heap.size w1.heap.size 4 _ _ _ (a4) (by omega)).mono ?_;rintro e k5 ⟨rfl,a5⟩;clear m0 m1 m2 m3 m4 m5 u2;obtain ⟨m0,m1,m2,m3,m4,m5⟩:=zA (J.out.below a5.below D);have u2:=(a5.below.cell (p:=⟨b,off+node.toNat,none⟩) z).trans I
   go_wp2_with fail
   refine (AC W H L _ _ _ _ (by omega) (by omega)).mono ?_;rintro e kn ⟨rfl,U⟩;have a5:=a5.more U;clear m0 m1 m2 m3 m4 m5 u2;obtain ⟨m0,m1,m2,m3,m4,m5⟩:=zA (J.out.below a5.below D);have u2:=(a5.below.cell (p:=⟨b,off+node.toNat,none⟩) z).trans I
   go_wp2_with fail
   refine (addK w1 _ w1.heap.size w1.heap.size 5 _ _ _ (a5) (by omega)).mono ?_;rintro e k6 ⟨rfl,a6⟩;clear m0 m1 m2 m3 m4 m5 u2;obtain ⟨m0,m1,m2,m3,m4,m5⟩:=zA (J.out.below a6.below D);have u2:=(a6.below.cell (p:=⟨b,off+node.toNat,none⟩) z).trans I;obtain ⟨vf,b6,M⟩:=a6.end_;have HO:=zh M;clear M
   go_wp2_with fail
   go_ret;refine ⟨vf,rfl,BC Q.out (Below.mono a6.below (EG _)) (EG _),?_⟩;exact next_fin (HO.out.mono Q.out.size) (next_eq _ _ _ _ (up_false (Int.not_le.2 hA)) (by rw [a9.out];exact up_true hB a0))
  ·have D:w.heap.size<w1.heap.size:=zd J.out;have E:=fun o=>zA (J.out.alloc o)
   obtain ⟨m0,m1,m2,m3,m4,m5⟩:(∀o,(w1.alloc o).cell? ⟨w.heap.size,0,none⟩=_)/\(∀o,(w1.alloc o).cell? ⟨w.heap.size,1,none⟩=_)/\(∀o,(w1.alloc o).cell? ⟨w.heap.size,2,none⟩=_)/\(∀o,(w1.alloc o).cell? ⟨w.heap.size,3,none⟩=_)/\(∀o,(w1.alloc o).cell? ⟨w.heap.size,4,none⟩=_)/\(∀o,(w1.alloc o).cell? ⟨w.heap.size,5,none⟩=_):=⟨fun o=>(E o).1,fun o=>(E o).2.1,fun o=>(E o).2.2.1,fun o=>(E o).2.2.2.1,fun o=>(E o).2.2.2.2.1,fun o=>(E o).2.2.2.2.2⟩;clear E
   go_wp2_with fail
   refine (addK w1 _ w1.heap.size w1.heap.size 0 _ _ _ (Acc.new w1) (by omega)).mono ?_;rintro e k1 ⟨rfl,a1⟩;clear m0 m1 m2 m3 m4 m5;obtain ⟨m0,m1,m2,m3,m4,m5⟩:=zA (J.out.below a1.below D)
   go_wp2_with fail
   refine (addK w1 _ w1.heap.size w1.heap.size 1 _ _ _ (a1) (by omega)).mono ?_;rintro e k2 ⟨rfl,a2⟩;clear m0 m1 m2 m3 m4 m5;obtain ⟨m0,m1,m2,m3,m4,m5⟩:=zA (J.out.below a2.below D)
   go_wp2_with fail
   refine (addK w1 _ w1.heap.size w1.heap.size 2 _ _ _ (a2) (by omega)).mono ?_;rintro e k3 ⟨rfl,a3⟩;clear m0 m1 m2 m3 m4 m5;obtain ⟨m0,m1,m2,m3,m4,m5⟩:=zA (J.out.below a3.below D)
   go_wp2_with fail
   refine (addK w1 _ w1.heap.size w1.heap.size 3 _ _ _ (a3) (by omega)).mono ?_;rintro e k4 ⟨rfl,a4⟩;clear m0 m1 m2 m3 m4 m5;obtain ⟨m0,m1,m2,m3,m4,m5⟩:=zA (J.out.below a4.below D)
   go_wp2_with fail
   refine (addK w1 _ w1.heap.size w1.heap.size 4 _ _ _ (a4) (by omega)).mono ?_;rintro e k5 ⟨rfl,a5⟩;clear m0 m1 m2 m3 m4 m5;obtain ⟨m0,m1,m2,m3,m4,m5⟩:=zA (J.out.below a5.below D)
   go_wp2_with fail
   refine (AC W H L _ _ _ _ (by omega) (by omega)).mono ?_;rintro e kn ⟨rfl,U⟩;have a5:=a5.more U;clear m0 m1 m2 m3 m4 m5;obtain ⟨m0,m1,m2,m3,m4,m5⟩:=zA (J.out.below a5.below D)
   go_wp2_with fail
   refine (addK w1 _ w1.heap.size w1.heap.size 5 _ _ _ (a5) (by omega)).mono ?_;rintro e k6 ⟨rfl,a6⟩;clear m0 m1 m2 m3 m4 m5;obtain ⟨m0,m1,m2,m3,m4,m5⟩:=zA (J.out.below a6.below D);obtain ⟨vf,b6,M⟩:=a6.end_;have HO:=zh M;clear M
   go_wp2_with fail
   go_ret;refine ⟨vf,rfl,BC Q.out (Below.mono a6.below (EG _)) (EG _),?_⟩;exact next_fin (HO.out.mono Q.out.size) (next_eq _ _ _ _ (up_false (Int.not_le.2 hA)) (up_false (Int.not_lt.2 hB)))
def MZ.n (m:MZ):Int:=m.w*m.h*m.l
theorem mem_ap {c:Bool}:y∈ap c x l↔y∈l\/(c=true/\y=x):=by
 unfold ap
 cases c <;> simp
theorem row_step {w k:Int} (o:0<w) (z:y<w*k) (D:y % w+1<w):y+1<w*k:=by
 have h1:=Int.emod_add_mul_ediv y w
 have h2:y / w<k:=by
  apply Int.ediv_lt_of_lt_mul o
  rwa [Int.mul_comm]
 have h3:w*(y / w+1)<=w*k:=Int.mul_le_mul_of_nonneg_left (by omega) (by omega);rw [Int.mul_add,Int.mul_one] at h3;omega
theorem layer_step {w h l:Int} (o:0<w) (D:0<h) (I:y<w*h*l) (G:y / w % h+1<h):y+w<w*h*l:=by
 have E:y / w<h*l:=by
  apply Int.ediv_lt_of_lt_mul o;rw [Int.mul_comm,<-Int.mul_assoc];exact I
 have h1:=row_step D E G;have h2:=Int.emod_add_mul_ediv y w;have h3:=Int.emod_lt_of_pos y o;have z:w*(y / w+2)<=w*(h*l):=Int.mul_le_mul_of_nonneg_left (by omega) (by omega);rw [Int.mul_add,<-Int.mul_assoc] at z;omega
theorem An {m:MZ} (d:Ex m) (h0:0<=y) (h1:y<m.n) (h:x∈zl m y):0<=x/\x<m.n:=by
 unfold MZ.n at h1⊢;obtain ⟨l1,l2⟩:=d.layer;have E:=d.w1;have D:=d.h1;simp only [zl,mem_ap,ES,EQ,FF,false_or] at h;rcases h with ((((( ⟨⟨a,_⟩,rfl⟩) | ⟨a,rfl⟩) | ⟨a,rfl⟩) | ⟨a,rfl⟩) | ⟨a,rfl⟩) | ⟨⟨a,_⟩,rfl⟩
 ·omega
 ·have h2:1<=y / m.w:=by
   have:0<=y / m.w:=Int.ediv_nonneg h0 (by omega);rcases Int.lt_or_le 0 (y / m.w) with h | h
   ·omega
   ·have:y / m.w=0:=by omega
    rw [this] at a;simp at a
  have h3:=Int.emod_add_mul_ediv y m.w;have o:=Int.emod_nonneg y (show m.w≠0 by omega);have z:m.w*1<=m.w*(y / m.w):=Int.mul_le_mul_of_nonneg_left h2 (by omega);omega
 ·have:y≠0:=by rintro rfl;simp at a
  omega
 ·have:=row_step (y:=y) (w:=m.w) (k:=m.h*m.l) (by omega) (by rw [<-Int.mul_assoc];exact h1) a;rw [<-Int.mul_assoc] at this;omega
 ·have:=layer_step (by omega) (by omega) h1 a;omega
 ·omega
def zi (m:MZ) (t:Nat) (x:Int):Bool:=(m.free.getD t []).getD x.toNat false
def RP (m:MZ) (t:Nat) (from_ used:List Int) (x:Int):Prop:=
 ∀S:Int->Prop,(∀y∈from_,0<=y->y<m.n->S y)->(∀y z,S y->z∈zl m y->zi m t z=true->z∉used->S z)->S x
theorem RP.base {m:MZ} (h:x∈from_) (h0:0<=x) (h1:x<m.n):RP m t from_ used x:=fun _ o _=>o x h h0 h1
theorem RP.step {m:MZ} (h:RP m t from_ used y) (G:x∈zl m y) (D:zi m t x=true) (E:x∉used):RP m t from_ used x:=
 fun S z o=>o y x (h S z o) G D E
theorem RP.range {m:MZ} (d:Ex m) (h:RP m t from_ used x):0<=x/\x<m.n:=
 h (fun x=>0<=x/\x<m.n) (fun y _ h0 h1=>⟨h0,h1⟩) (fun y z o D _ _=>An d o.1 o.2 D)
theorem RP.congr {m:MZ} {from' used':List Int} (G:∀x,x∈from_↔x∈from') (I:∀x,x∈used↔x∈used') (h:RP m t from_ used x):RP m t from' used' x:=
 h _ (fun y D h0 h1=>RP.base ((G y).1 D) h0 h1) (fun y z D J E o=>D.step J E (fun h=>o ((I z).2 h)))
theorem nodup_nat:∀(n:Nat) (l:List Nat),l.Nodup->(∀x∈l,x<n)->l.length<=n
 | 0,l,_,h=>by
  cases l with
  | nil=>simp
  | cons a l=>exact absurd (h a (Ft ..)) (by omega)
 | n+1,l,z,h=>by
  by_cases hm:n∈l
  ·have h1:=nodup_nat n (l.erase n) (z.erase n) (fun x o=>by
    have h2:=(z.mem_erase_iff).1 o;have h3:=h x h2.2;omega)
   rw [List.length_erase_of_mem hm] at h1;omega
  ·have h1:=nodup_nat n l z (fun x o=>by
    have h3:=h x o;have:x≠n:=by rintro rfl;exact hm o
    omega)
   omega
theorem Bo (J:l.Nodup) (n:Int) (z:∀x∈l,0<=x/\x<n):l.length<=n.toNat:=by
 have o:(l.map Int.toNat).Nodup:=by
  rw [List.nodup_iff_pairwise_ne,List.pairwise_map];refine List.Pairwise.imp_of_mem ?_ (List.nodup_iff_pairwise_ne.1 J);intro a b E I G he;have:=z a E;have:=z b I;omega
 have:=nodup_nat n.toNat (l.map Int.toNat) o (fun x D=>by
  rw [FH] at D;obtain ⟨y,L,rfl⟩:=D;have:=z y L;omega)
 simpa using this
end
end Go.Proofs.YthbjngbhbbkkgaaGreat
