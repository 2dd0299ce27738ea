import Derived.Test.YtcnaogdgjkpkmaaGreatDoorWSa
import Derived.Deep.DeepCutAuto
import Derived.Deep.AppendLies
import Derived.Deep.Onto
set_option linter.unusedVariables false
set_option linter.unusedSimpArgs false
set_option maxRecDepth 100000
set_option maxHeartbeats 16000000
namespace Go.Proofs.YtcnaogdgjkpkmaaGreatDoor
variable {cs:Array Value} {x y:Int} {from_ l used:List Int} {B g gb k t:Nat} {v:Value} {w w' w0:World}
section
open Go.RowKit
theorem Tryz.infoInt:(Tryz.prog.info? 3).map (fun i=>(i.zero,i.size,i.bytes))=some (some (.int .i64 0),1,8):=by kernel_rfl
def ap (c:Bool) (x:Int) (l:List Int):List Int:=if c then l++[x] else l
theorem ap_len (c:Bool) (x:Int) (l:List Int):(ap c x l).length<=l.length+1:=by
 unfold ap;split <;> simp
theorem map_snoc (l:List Int) (x:Int):(l++[x]).map (Value.int .i64)=l.map (Value.int .i64)++[.int .i64 x]:=by simp
def zj (w:World) (g:Nat) (t:TypeId) (cs:Array Value):Prop:=w.heap[g]?=some (.cells cs t (0,0))
theorem zj.ne_ {g':Nat} {t t':TypeId} {cs':Array Value} (h:zj w g t cs) (d:zj w g' t' cs') (o:t≠t'):g≠g':=by
 rintro rfl;unfold zj at h d;rw [h] at d;injection d with d;injection d with _ ht;exact o ht
theorem zg {base:Nat} {e:TypeId} {size n:Nat} {xs:List Value} {t:TypeId} (h:w.ownsRow base e size v n xs) (o:zj w g t cs) (d:e≠t):v.ownBlock≠some g:=by
 rcases h.2 with ⟨rfl,_⟩ | ⟨g',cap,cur,rfl,_,hh,_⟩
 ·simp [Value.ownBlock]
 ·intro he;have:g'=g:=by simpa [Value.ownBlock] using he
  subst this;exact zj.ne_ (t:=e) hh o d rfl
def Acc (w0 w:World) (B gb:Nat) (l:List Int):Prop:=
 ∃v,zj w gb 24 #[v]/\w.ownsRow B 3 1 v l.length (l.map (Value.int .i64))/\B<=gb/\Below B w0 w
theorem wpApp1 {ops:Array Oper} {rest:List Oper} {o:Oper} {a:Act} {Q:Exit->Act->World->Prop} (D:o.guard=none) (s y:Operand)
  (M:o.op=.call { callee:=.builtin .append,args:=#[s,y],argTypes:=#[24,24] }) (W:World) (l:List Int) (x:Int) (B g c:Nat) (v:Value) (O:a.eval s=v)
  (U:a.eval y=.slice (some ⟨g,0,none⟩) 1 c) (d:W.ownsRow B 3 1 v l.length (l.map (Value.int .i64))) (K:W.cell? ⟨g,0,none⟩=some (.int .i64 x)) (J:B<=W.heap.size) (V:l.length<=1000000000000)
  (h:∀v' w',w'.ownsRow B 3 1 v' (l++[x]).length ((l++[x]).map (Value.int .i64))->W.grownBy w' v.ownBlock->wpList Tryz.prog ops Q rest (a.put o.dst v') w'):wpList Tryz.prog ops Q (o :: rest) a W:=by
 obtain ⟨i0,L,E,G,I⟩:=info_parts Tryz.infoInt;refine wpList_append_own _ D _ _ 24 M B 3 i0 (.int .i64 0) 1 8 Tryz.underlying24 L E G I rfl (by decide) _ _ _ O d ⟨g,0,none⟩ 1 c [.int .i64 x] U rfl ?_ ?_ ?_ ?_ J ?_
 ·intro j u r
  match j,r with
  | 0,r=>
   have:u=.int .i64 x:=by simpa using r.symm
   rw [this];exact K
 ·intro u r;have:u=.int .i64 x:=by simpa using r
  rw [this];rfl
 ·unfold maxLen;omega
 ·omega
 ·intro v' w' h1 h2 _;refine h v' w' ?_ h2;rw [map_snoc,DK];exact h1
theorem add_calls (w0 w:World) (B gb:Nat) (l:List Int) (c:Bool) (x:Int) (h:Acc w0 w B gb l) (hl:l.length<=1000) (hB:B<=w0.heap.size):
  Calls Tryz.prog 96 #[.bool c,.int .i64 x,.pointer (some ⟨gb,0,none⟩)] w fun e w'=>e=.returned (.tuple #[])/\Acc w0 w' B gb (ap c x l):=by
 have E:=h;obtain ⟨v,K,r,I,Q⟩:=h
 cases c with
 | false=>
  go_enter Tryz.func96,Tryz.ntmps96
  go_wp2
  go_end0
  exact ⟨rfl,E⟩
 | true=>
  have U:w.cell? ⟨gb,0,none⟩=some v:=by unfold World.cell?;simp only [show w.heap[gb]?=_ from K];rfl
  have a2:=zg r K (by decide);have a1:gb<w.heap.size:=zb K;have O:B<=w.heap.size:=DE hB Q.size;have HG:=zh K;clear K;have HB:=zh Q;clear Q;clear E
  go_enter Tryz.func96,Tryz.ntmps96
  go_wp2_with (at_builtin;refine wpApp1 rfl _ _ rfl _ l x B w.heap.size 1 v rfl rfl (r.alloc _) ?c1 ?c2 ?c3 ?_)
  case c1=>simp
  case c2=>simp;omega
  case c3=>omega
  intro v' w1 o d;obtain ⟨g',cap',rfl,a0,V⟩:=o.form (by simp);have D:zj w1 gb 24 #[v]:=(d.block gb (by simp;omega) (fun e=>a2 e.symm)).trans ((DV w _ gb a1).trans HG.out);have L:w1.cell? ⟨gb,0,none⟩=some v:=by unfold World.cell?;simp only [show w1.heap[gb]?=_ from D];rfl
  have hfz:w1.frozen? ⟨gb,0,none⟩=false:=by unfold World.frozen?;simp [show w1.heap[gb]?=_ from D]
  have G:=zh D;clear D;have M:=zh d;clear d;have HO:=zh o;clear o;clear a0 V;go_wp2
  go_end0
  have J:Below B w0 w1:=(HB.out.alloc O _).grown M.out (by simp;omega) (fun k hk=>by
   have:=(r.lt k hk).1;omega)
  refine ⟨rfl,.slice (some ⟨g',0,none⟩) (l++[x]).length cap',?_,?_,I,J.setCell I _⟩
  ·have:=G.out;unfold zj at this⊢;simp [World.setCell,Array.getElem?_modify,this]
  ·have h:=ownsRow_setCell_other (a:=⟨gb,0,none⟩) HO.out (zg (t:=24) HO.out G.out (by decide)) (.slice (some ⟨g',0,none⟩) (l++[x]).length cap');simpa [ap] using h
def AccK (w0 w:World) (B gb k:Nat) (l:List Int):Prop:=Acc w0 w B gb l/\l.length<=k/\B<=w0.heap.size
theorem addK (w0 w:World) (B gb k:Nat) (l:List Int) (c:Bool) (x:Int) (h:AccK w0 w B gb k l) (r:k<=1000):
  Calls Tryz.prog 96 #[.bool c,.int .i64 x,.pointer (some ⟨gb,0,none⟩)] w fun e w'=>e=.returned (.tuple #[])/\AccK w0 w' B gb (k+1) (ap c x l):=by
 obtain ⟨h,D,d⟩:=h;refine (add_calls w0 w B gb l c x h (by omega) d).mono ?_;rintro e w' ⟨rfl,o⟩;exact ⟨rfl,o,by have:=ap_len c x l;omega,d⟩
theorem AccK.below (h:AccK w0 w B gb k l):Below B w0 w:=by
 obtain ⟨⟨v,_,_,_,d⟩,_,_⟩:=h;exact d
theorem zA {t:TypeId} {a0 a1 a2 a3 a4 a5:Value} (h:zj w g t #[a0,a1,a2,a3,a4,a5]):
  w.cell? ⟨g,0,none⟩=some a0/\w.cell? ⟨g,1,none⟩=some a1/\w.cell? ⟨g,2,none⟩=some a2/\w.cell? ⟨g,3,none⟩=some a3/\w.cell? ⟨g,4,none⟩=some a4/\w.cell? ⟨g,5,none⟩=some a5:=by
 unfold zj at h;unfold World.cell?;simp only [h];exact ⟨rfl,rfl,rfl,rfl,rfl,rfl⟩
theorem zj.below {t:TypeId} (h:zj w g t cs) (d:Below B w w') (o:g<B):zj w' g t cs:=(d.block g o).trans h
theorem zj.alloc {w:World} {g:Nat} {t:TypeId} {cs:Array Value} (h:zj w g t cs) (o:Obj):zj (w.alloc o) g t cs:=(DV w o g (zb h)).trans h
theorem Acc.new (w1:World):AccK w1 (w1.alloc (.cells #[.slice none 0 0] 24)) w1.heap.size w1.heap.size 0 []:=
 ⟨⟨.slice none 0 0,Eo _ _,(World.ownsRow_nil _ _ _ _),DC _,(Below.refl _ _).alloc (DC _) _⟩,DC _,DC _⟩
theorem AccK.end_ (h:AccK w0 w B gb k l):∃v,w.cell? ⟨gb,0,none⟩=some v/\w.ownsRow B 3 1 v l.length (l.map (Value.int .i64)):=by
 obtain ⟨⟨v,d,o,_,_⟩,_,_⟩:=h;refine ⟨v,?_,o⟩;unfold zj at d;unfold World.cell?;simp only [d];rfl
theorem AccK.more (h:AccK w0 w B gb k l) (d:Below w.heap.size w w'):AccK w0 w' B gb k l:=by
 obtain ⟨⟨v,E,J,o,r⟩,I,D⟩:=h;exact ⟨⟨v,(d.block gb (zb E)).trans E,J.kept (row:=none) ⟨d.os,d.tape,d.output,d.size,fun i G _=>d.block i G⟩ (by cases h:v.ownBlock <;> simp),o,BB r d D⟩,I,D⟩
theorem next_fin {l':List Int} (h:w.ownsRow B 3 1 v l.length (l.map (Value.int .i64))) (e:l'=l):w.ownsRow B 3 1 v l'.length (l'.map (Value.int .i64)):=by
 rw [e];exact h
def zu (m:MZ) (node:Int):List Int:=
 ap (decide (node+m.w*m.h<m.w*m.h*m.l) && m.up.getD node.toNat false) (node+m.w*m.h)
  (ap (decide (node / m.w % m.h+1<m.h)) (node+m.w)
   (ap (decide (node % m.w+1<m.w)) (node+1)
    (ap (decide (0<node % m.w)) (node - 1)
     (ap (decide (0<node / m.w % m.h)) (node - m.w)
      (ap (decide (m.w*m.h<=node) && m.up.getD (node - m.w*m.h).toNat false) (node - m.w*m.h) [])))))
structure Dim (m:MZ):Prop where
 w1:1<=m.w
 w2:m.w<=300
 h1:1<=m.h
 h2:m.h<=300
 l1:1<=m.l
 l2:m.l<=300
 n1:m.w*m.h*m.l<=300
 up:(m.up.length:Int)=m.w*m.h*m.l
theorem Dim.layer {m:MZ} (d:Dim m):1<=m.w*m.h/\m.w*m.h<=m.w*m.h*m.l:=by
 have h1:1<=m.w*m.h:=by
  have:=Int.mul_le_mul d.w1 d.h1 (by omega) (by have:=d.w1;omega);omega
 refine ⟨h1,?_⟩;have:=Int.mul_le_mul_of_nonneg_left d.l1 (show 0<=m.w*m.h by omega);omega
theorem next_eq (m:MZ) (node:Int) (b1 b2:Bool) (h1:b1=(decide (m.w*m.h<=node) && m.up.getD (node - m.w*m.h).toNat false)) (h2:b2=(decide (node+m.w*m.h<m.w*m.h*m.l) && m.up.getD node.toNat false)):
  zu m node=ap b2 (node+m.w*m.h) (ap (decide (node / m.w % m.h+1<m.h)) (node+m.w) (ap (decide (node % m.w+1<m.w)) (node+1) (ap (decide (0<node % m.w)) (node - 1) (ap (decide (0<node / m.w % m.h)) (node - m.w) (ap b1 (node - m.w*m.h) []))))):=by
 rw [h1,h2];rfl
theorem up_true {p:Prop} [Decidable p] {up:List Bool} (hp:p) (h:k<up.length):up[k]=(decide p && up.getD k false):=by
 simp [hp,h]
theorem up_false {p:Prop} [Decidable p] {b:Bool} (hp:¬ p):false=(decide p && b):=by simp [hp]
theorem Cx {ok:Nat->Prop} (m:MZ) (node:Int) (w:World) (hm:zM w ok v m) (d:Dim m) (h0:0<=node) (h1:node<m.w*m.h*m.l):
  Calls Tryz.prog 58 #[v,.int .i64 node] w fun e w'=>∃v',e=.returned v'/\Below w.heap.size w w'/\w'.ownsRow w.heap.size 3 1 v' (zu m node).length ((zu m node).map (Value.int .i64)):=by
 obtain ⟨f,u,t,rfl,_,hu,_⟩:=hm;obtain ⟨A,c,rfl,c8,c6⟩:=hu;have hl:=d.layer;obtain ⟨d6,d7⟩:=hl;obtain ⟨w1,w2,c9,d4,ll1,ll2,n1,c0⟩:=d;obtain ⟨W,H,L,fr,up,ts⟩:=m;simp only at*;have HU:=zh c6;clear c6;have b4:=zh c0;clear c0
 go_enter Tryz.func58,Tryz.ntmps58
 have d8:0<=node / W:=Int.ediv_nonneg h0 (by omega);have d9:node / W<=node:=Int.ediv_le_self _ h0
 go_wp2_with fail
 go_quiet (fail)
 have e0:0<=node / W % H:=Int.emod_nonneg _ (by omega);have e1:node / W % H<H:=Int.emod_lt_of_pos _ (by omega);have e2:0<=node % W:=Int.emod_nonneg _ (by omega);have e3:node % W<W:=Int.emod_lt_of_pos _ (by omega);generalize b7:((w.alloc (.cells #[.int .i64 W,.int .i64 H,.int .i64 L,f,.slice A up.length c,t] 35)).drewN nq)=w1;have M:Below w.heap.size w w1:=by rw [<-b7];exact Dl ((Below.refl _ _).alloc (DC _) _) _
 have b9:zj w1 w.heap.size 35 #[.int .i64 W,.int .i64 H,.int .i64 L,f,.slice A up.length c,t]:=by rw [<-b7];exact Eo _ _
 have b3:=zh (HU.out.keep (zW.of_below M):AG w1 ok 1 A up.length (up.map Value.bool));clear b7 HU;have J:=zh b9;clear b9;have O:=zh M;clear M;by_cases hA:W*H<=node
 ·by_cases hB:node+W*H<W*H*L
  ·have V:(node - W*H).toNat<up.length:=by have:=b4.out;omega
   obtain ⟨b,off,a7,_,G⟩:=CC b3.out V V;have r:=zp G;have a0:node.toNat<up.length:=by have:=b4.out;omega
   obtain ⟨b',off',b0,_,I⟩:=CC b3.out a0 a0;obtain ⟨rfl,rfl⟩:b=b'/\off=off':=by rw [a7] at b0;simpa using b0
   clear b0;subst a7;obtain ⟨b1,M⟩:=EH (up[(node - W*H).toNat]);rw [<-M] at G;have a8:=zh M;clear M;obtain ⟨b2,Q⟩:=EH (up[node.toNat]);rw [<-Q] at I;have a9:=zh Q;clear Q;have D:w.heap.size<w1.heap.size:=zb J.out;have E:=fun o=>zA (J.out.alloc o)
   obtain ⟨m0,m1,m2,m3,m4,m5⟩:(∀o,(w1.alloc o).cell? ⟨w.heap.size,0,none⟩=_)/\(∀o,(w1.alloc o).cell? ⟨w.heap.size,1,none⟩=_)/\(∀o,(w1.alloc o).cell? ⟨w.heap.size,2,none⟩=_)/\(∀o,(w1.alloc o).cell? ⟨w.heap.size,3,none⟩=_)/\(∀o,(w1.alloc o).cell? ⟨w.heap.size,4,none⟩=_)/\(∀o,(w1.alloc o).cell? ⟨w.heap.size,5,none⟩=_):=⟨fun o=>(E o).1,fun o=>(E o).2.1,fun o=>(E o).2.2.1,fun o=>(E o).2.2.2.1,fun o=>(E o).2.2.2.2.1,fun o=>(E o).2.2.2.2.2⟩;clear E;have u1:∀o,(w1.alloc o).cell? ⟨b,off+(node - W*H).toNat,none⟩=_:=fun o=>(World.cell?_alloc_lt w1 o ⟨b,off+(node - W*H).toNat,none⟩ r).trans G
   have u2:∀o,(w1.alloc o).cell? ⟨b,off+node.toNat,none⟩=_:=fun o=>(World.cell?_alloc_lt w1 o ⟨b,off+node.toNat,none⟩ r).trans I
   go_wp2_with fail
   refine (addK w1 _ w1.heap.size w1.heap.size 0 _ _ _ (Acc.new w1) (by omega)).mono ?_;rintro e k1 ⟨rfl,a1⟩;clear m0 m1 m2 m3 m4 m5 u1 u2;obtain ⟨m0,m1,m2,m3,m4,m5⟩:=zA (J.out.below a1.below D);have u1:=(a1.below.cell (p:=⟨b,off+(node - W*H).toNat,none⟩) r).trans G;have u2:=(a1.below.cell (p:=⟨b,off+node.toNat,none⟩) r).trans I
   go_wp2_with fail
   refine (addK w1 _ w1.heap.size w1.heap.size 1 _ _ _ (a1) (by omega)).mono ?_;rintro e k2 ⟨rfl,a2⟩;clear m0 m1 m2 m3 m4 m5 u1 u2;obtain ⟨m0,m1,m2,m3,m4,m5⟩:=zA (J.out.below a2.below D);have u1:=(a2.below.cell (p:=⟨b,off+(node - W*H).toNat,none⟩) r).trans G;have u2:=(a2.below.cell (p:=⟨b,off+node.toNat,none⟩) r).trans I
   go_wp2_with fail
   refine (addK w1 _ w1.heap.size w1.heap.size 2 _ _ _ (a2) (by omega)).mono ?_;rintro e k3 ⟨rfl,a3⟩;clear m0 m1 m2 m3 m4 m5 u1 u2;obtain ⟨m0,m1,m2,m3,m4,m5⟩:=zA (J.out.below a3.below D);have u1:=(a3.below.cell (p:=⟨b,off+(node - W*H).toNat,none⟩) r).trans G;have u2:=(a3.below.cell (p:=⟨b,off+node.toNat,none⟩) r).trans I
   go_wp2_with fail
   refine (addK w1 _ w1.heap.size w1.heap.size 3 _ _ _ (a3) (by omega)).mono ?_;rintro e k4 ⟨rfl,a4⟩;clear m0 m1 m2 m3 m4 m5 u1 u2;obtain ⟨m0,m1,m2,m3,m4,m5⟩:=zA (J.out.below a4.below D);have u1:=(a4.below.cell (p:=⟨b,off+(node - W*H).toNat,none⟩) r).trans G;have u2:=(a4.below.cell (p:=⟨b,off+node.toNat,none⟩) r).trans I
   go_wp2_with fail
   refine (addK w1 _ w1.heap.size w1.heap.size 4 _ _ _ (a4) (by omega)).mono ?_;rintro e k5 ⟨rfl,a5⟩;clear m0 m1 m2 m3 m4 m5 u1 u2;obtain ⟨m0,m1,m2,m3,m4,m5⟩:=zA (J.out.below a5.below D);have u1:=(a5.below.cell (p:=⟨b,off+(node - W*H).toNat,none⟩) r).trans G;have u2:=(a5.below.cell (p:=⟨b,off+node.toNat,none⟩) r).trans I
   go_wp2_with fail
   refine (zX W H L _ _ _ _ (by omega) (by omega)).mono ?_;rintro e kn ⟨rfl,U⟩;have a5:=a5.more U;clear m0 m1 m2 m3 m4 m5 u1 u2;obtain ⟨m0,m1,m2,m3,m4,m5⟩:=zA (J.out.below a5.below D);have u1:=(a5.below.cell (p:=⟨b,off+(node - W*H).toNat,none⟩) r).trans G;have u2:=(a5.below.cell (p:=⟨b,off+node.toNat,none⟩) r).trans I
   go_wp2_with fail
   refine (addK w1 _ w1.heap.size w1.heap.size 5 _ _ _ (a5) (by omega)).mono ?_;rintro e k6 ⟨rfl,a6⟩;clear m0 m1 m2 m3 m4 m5 u1 u2;obtain ⟨m0,m1,m2,m3,m4,m5⟩:=zA (J.out.below a6.below D);have u1:=(a6.below.cell (p:=⟨b,off+(node - W*H).toNat,none⟩) r).trans G;have u2:=(a6.below.cell (p:=⟨b,off+node.toNat,none⟩) r).trans I;obtain ⟨vf,b6,K⟩:=a6.end_;have HO:=zh K;clear K
   go_wp2_with fail
   go_ret;refine ⟨vf,rfl,BB O.out (Below.mono a6.below (DC _)) (DC _),?_⟩;exact next_fin (HO.out.mono O.out.size) (next_eq _ _ _ _ (by rw [a8.out];exact up_true hA V) (by rw [a9.out];exact up_true hB a0))
  ·have V:(node - W*H).toNat<up.length:=by have:=b4.out;omega
   obtain ⟨b,off,a7,_,G⟩:=CC b3.out V V;have r:=zp G;subst a7;obtain ⟨b1,M⟩:=EH (up[(node - W*H).toNat]);rw [<-M] at G;have a8:=zh M;clear M;have D:w.heap.size<w1.heap.size:=zb J.out;have E:=fun o=>zA (J.out.alloc o)
   obtain ⟨m0,m1,m2,m3,m4,m5⟩:(∀o,(w1.alloc o).cell? ⟨w.heap.size,0,none⟩=_)/\(∀o,(w1.alloc o).cell? ⟨w.heap.size,1,none⟩=_)/\(∀o,(w1.alloc o).cell? ⟨w.heap.size,2,none⟩=_)/\(∀o,(w1.alloc o).cell? ⟨w.heap.size,3,none⟩=_)/\(∀o,(w1.alloc o).cell? ⟨w.heap.size,4,none⟩=_)/\(∀o,(w1.alloc o).cell? ⟨w.heap.size,5,none⟩=_):=⟨fun o=>(E o).1,fun o=>(E o).2.1,fun o=>(E o).2.2.1,fun o=>(E o).2.2.2.1,fun o=>(E o).2.2.2.2.1,fun o=>(E o).2.2.2.2.2⟩;clear E;have u1:∀o,(w1.alloc o).cell? ⟨b,off+(node - W*H).toNat,none⟩=_:=fun o=>(World.cell?_alloc_lt w1 o ⟨b,off+(node - W*H).toNat,none⟩ r).trans G
   go_wp2_with fail
   refine (addK w1 _ w1.heap.size w1.heap.size 0 _ _ _ (Acc.new w1) (by omega)).mono ?_;rintro e k1 ⟨rfl,a1⟩;clear m0 m1 m2 m3 m4 m5 u1;obtain ⟨m0,m1,m2,m3,m4,m5⟩:=zA (J.out.below a1.below D);have u1:=(a1.below.cell (p:=⟨b,off+(node - W*H).toNat,none⟩) r).trans G
   go_wp2_with fail
   refine (addK w1 _ w1.heap.size w1.heap.size 1 _ _ _ (a1) (by omega)).mono ?_;rintro e k2 ⟨rfl,a2⟩;clear m0 m1 m2 m3 m4 m5 u1;obtain ⟨m0,m1,m2,m3,m4,m5⟩:=zA (J.out.below a2.below D);have u1:=(a2.below.cell (p:=⟨b,off+(node - W*H).toNat,none⟩) r).trans G
   go_wp2_with fail
   refine (addK w1 _ w1.heap.size w1.heap.size 2 _ _ _ (a2) (by omega)).mono ?_;rintro e k3 ⟨rfl,a3⟩;clear m0 m1 m2 m3 m4 m5 u1;obtain ⟨m0,m1,m2,m3,m4,m5⟩:=zA (J.out.below a3.below D);have u1:=(a3.below.cell (p:=⟨b,off+(node - W*H).toNat,none⟩) r).trans G
   go_wp2_with fail
   refine (addK w1 _ w1.heap.size w1.heap.size 3 _ _ _ (a3) (by omega)).mono ?_;rintro e k4 ⟨rfl,a4⟩;clear m0 m1 m2 m3 m4 m5 u1;obtain ⟨m0,m1,m2,m3,m4,m5⟩:=zA (J.out.below a4.below D);have u1:=(a4.below.cell (p:=⟨b,off+(node - W*H).toNat,none⟩) r).trans G
   go_wp2_with fail
   refine (addK w1 _ w1.heap.size w1.heap.size 4 _ _ _ (a4) (by omega)).mono ?_;rintro e k5 ⟨rfl,a5⟩;clear m0 m1 m2 m3 m4 m5 u1;obtain ⟨m0,m1,m2,m3,m4,m5⟩:=zA (J.out.below a5.below D);have u1:=(a5.below.cell (p:=⟨b,off+(node - W*H).toNat,none⟩) r).trans G
   go_wp2_with fail
   refine (zX W H L _ _ _ _ (by omega) (by omega)).mono ?_;rintro e kn ⟨rfl,U⟩;have a5:=a5.more U;clear m0 m1 m2 m3 m4 m5 u1;obtain ⟨m0,m1,m2,m3,m4,m5⟩:=zA (J.out.below a5.below D);have u1:=(a5.below.cell (p:=⟨b,off+(node - W*H).toNat,none⟩) r).trans G
   go_wp2_with fail
   refine (addK w1 _ w1.heap.size w1.heap.size 5 _ _ _ (a5) (by omega)).mono ?_;rintro e k6 ⟨rfl,a6⟩;clear m0 m1 m2 m3 m4 m5 u1;obtain ⟨m0,m1,m2,m3,m4,m5⟩:=zA (J.out.below a6.below D);have u1:=(a6.below.cell (p:=⟨b,off+(node - W*H).toNat,none⟩) r).trans G;obtain ⟨vf,b6,K⟩:=a6.end_;have HO:=zh K;clear K
   go_wp2_with fail
   go_ret;refine ⟨vf,rfl,BB O.out (Below.mono a6.below (DC _)) (DC _),?_⟩;exact next_fin (HO.out.mono O.out.size) (next_eq _ _ _ _ (by rw [a8.out];exact up_true hA V) (up_false (Int.not_lt.2 hB)))
 ·by_cases hB:node+W*H<W*H*L
  ·have a0:node.toNat<up.length:=by have:=b4.out;omega
   obtain ⟨b,off,a7,_,I⟩:=CC b3.out a0 a0;have r:=zp I;subst a7;obtain ⟨b2,Q⟩:=EH (up[node.toNat]);rw [<-Q] at I;have a9:=zh Q;clear Q;have D:w.heap.size<w1.heap.size:=zb J.out;have E:=fun o=>zA (J.out.alloc o)
   obtain ⟨m0,m1,m2,m3,m4,m5⟩:(∀o,(w1.alloc o).cell? ⟨w.heap.size,0,none⟩=_)/\(∀o,(w1.alloc o).cell? ⟨w.heap.size,1,none⟩=_)/\(∀o,(w1.alloc o).cell? ⟨w.heap.size,2,none⟩=_)/\(∀o,(w1.alloc o).cell? ⟨w.heap.size,3,none⟩=_)/\(∀o,(w1.alloc o).cell? ⟨w.heap.size,4,none⟩=_)/\(∀o,(w1.alloc o).cell? ⟨w.heap.size,5,none⟩=_):=⟨fun o=>(E o).1,fun o=>(E o).2.1,fun o=>(E o).2.2.1,fun o=>(E o).2.2.2.1,fun o=>(E o).2.2.2.2.1,fun o=>(E o).2.2.2.2.2⟩;clear E;have u2:∀o,(w1.alloc o).cell? ⟨b,off+node.toNat,none⟩=_:=fun o=>(World.cell?_alloc_lt w1 o ⟨b,off+node.toNat,none⟩ r).trans I
   go_wp2_with fail
   refine (addK w1 _ w1.heap.size w1.heap.size 0 _ _ _ (Acc.new w1) (by omega)).mono ?_;rintro e k1 ⟨rfl,a1⟩;clear m0 m1 m2 m3 m4 m5 u2;obtain ⟨m0,m1,m2,m3,m4,m5⟩:=zA (J.out.below a1.below D);have u2:=(a1.below.cell (p:=⟨b,off+node.toNat,none⟩) r).trans I
   go_wp2_with fail
   refine (addK w1 _ w1.heap.size w1.heap.size 1 _ _ _ (a1) (by omega)).mono ?_;rintro e k2 ⟨rfl,a2⟩;clear m0 m1 m2 m3 m4 m5 u2;obtain ⟨m0,m1,m2,m3,m4,m5⟩:=zA (J.out.below a2.below D);have u2:=(a2.below.cell (p:=⟨b,off+node.toNat,none⟩) r).trans I
   go_wp2_with fail
   refine (addK w1 _ w1.heap.size w1.heap.size 2 _ _ _ (a2) (by omega)).mono ?_;rintro e k3 ⟨rfl,a3⟩;clear m0 m1 m2 m3 m4 m5 u2;obtain ⟨m0,m1,m2,m3,m4,m5⟩:=zA (J.out.below a3.below D);have u2:=(a3.below.cell (p:=⟨b,off+node.toNat,none⟩) r).trans I
   go_wp2_with fail
   refine (addK w1 _ w1.heap.size w1.heap.size 3 _ _ _ (a3) (by omega)).mono ?_;rintro e k4 ⟨rfl,a4⟩;clear m0 m1 m2 m3 m4 m5 u2;obtain ⟨m0,m1,m2,m3,m4,m5⟩:=zA (J.out.below a4.below D);have u2:=(a4.below.cell (p:=⟨b,off+node.toNat,none⟩) r).trans I
   go_wp2_with fail
   refine (addK w1 _ w1.heap.size w1.heap.size 4 _ _ _ (a4) (by omega)).mono ?_;rintro e k5 ⟨rfl,a5⟩;clear m0 m1 m2 m3 m4 m5 u2;obtain ⟨m0,m1,m2,m3,m4,m5⟩:=zA (J.out.below a5.below D);have u2:=(a5.below.cell (p:=⟨b,off+node.toNat,none⟩) r).trans I
   go_wp2_with fail
   refine (zX W H L _ _ _ _ (by omega) (by omega)).mono ?_;rintro e kn ⟨rfl,U⟩;have a5:=a5.more U;clear m0 m1 m2 m3 m4 m5 u2;obtain ⟨m0,m1,m2,m3,m4,m5⟩:=zA (J.out.below a5.below D);have u2:=(a5.below.cell (p:=⟨b,off+node.toNat,none⟩) r).trans I
   go_wp2_with fail
   refine (addK w1 _ w1.heap.size w1.heap.size 5 _ _ _ (a5) (by omega)).mono ?_;rintro e k6 ⟨rfl,a6⟩;clear m0 m1 m2 m3 m4 m5 u2;obtain ⟨m0,m1,m2,m3,m4,m5⟩:=zA (J.out.below a6.below D);have u2:=(a6.below.cell (p:=⟨b,off+node.toNat,none⟩) r).trans I;obtain ⟨vf,b6,K⟩:=a6.end_;have HO:=zh K;clear K
   go_wp2_with fail
   go_ret;refine ⟨vf,rfl,BB O.out (Below.mono a6.below (DC _)) (DC _),?_⟩;exact next_fin (HO.out.mono O.out.size) (next_eq _ _ _ _ (up_false (Int.not_le.2 hA)) (by rw [a9.out];exact up_true hB a0))
  ·have D:w.heap.size<w1.heap.size:=zb J.out;have E:=fun o=>zA (J.out.alloc o)
   obtain ⟨m0,m1,m2,m3,m4,m5⟩:(∀o,(w1.alloc o).cell? ⟨w.heap.size,0,none⟩=_)/\(∀o,(w1.alloc o).cell? ⟨w.heap.size,1,none⟩=_)/\(∀o,(w1.alloc o).cell? ⟨w.heap.size,2,none⟩=_)/\(∀o,(w1.alloc o).cell? ⟨w.heap.size,3,none⟩=_)/\(∀o,(w1.alloc o).cell? ⟨w.heap.size,4,none⟩=_)/\(∀o,(w1.alloc o).cell? ⟨w.heap.size,5,none⟩=_):=⟨fun o=>(E o).1,fun o=>(E o).2.1,fun o=>(E o).2.2.1,fun o=>(E o).2.2.2.1,fun o=>(E o).2.2.2.2.1,fun o=>(E o).2.2.2.2.2⟩;clear E
   go_wp2_with fail
   refine (addK w1 _ w1.heap.size w1.heap.size 0 _ _ _ (Acc.new w1) (by omega)).mono ?_;rintro e k1 ⟨rfl,a1⟩;clear m0 m1 m2 m3 m4 m5;obtain ⟨m0,m1,m2,m3,m4,m5⟩:=zA (J.out.below a1.below D)
   go_wp2_with fail
   refine (addK w1 _ w1.heap.size w1.heap.size 1 _ _ _ (a1) (by omega)).mono ?_;rintro e k2 ⟨rfl,a2⟩;clear m0 m1 m2 m3 m4 m5;obtain ⟨m0,m1,m2,m3,m4,m5⟩:=zA (J.out.below a2.below D)
   go_wp2_with fail
   refine (addK w1 _ w1.heap.size w1.heap.size 2 _ _ _ (a2) (by omega)).mono ?_;rintro e k3 ⟨rfl,a3⟩;clear m0 m1 m2 m3 m4 m5;obtain ⟨m0,m1,m2,m3,m4,m5⟩:=zA (J.out.below a3.below D)
   go_wp2_with fail
   refine (addK w1 _ w1.heap.size w1.heap.size 3 _ _ _ (a3) (by omega)).mono ?_;rintro e k4 ⟨rfl,a4⟩;clear m0 m1 m2 m3 m4 m5;obtain ⟨m0,m1,m2,m3,m4,m5⟩:=zA (J.out.below a4.below D)
   go_wp2_with fail
   refine (addK w1 _ w1.heap.size w1.heap.size 4 _ _ _ (a4) (by omega)).mono ?_;rintro e k5 ⟨rfl,a5⟩;clear m0 m1 m2 m3 m4 m5;obtain ⟨m0,m1,m2,m3,m4,m5⟩:=zA (J.out.below a5.below D)
   go_wp2_with fail
   refine (zX W H L _ _ _ _ (by omega) (by omega)).mono ?_;rintro e kn ⟨rfl,U⟩;have a5:=a5.more U;clear m0 m1 m2 m3 m4 m5;obtain ⟨m0,m1,m2,m3,m4,m5⟩:=zA (J.out.below a5.below D)
   go_wp2_with fail
   refine (addK w1 _ w1.heap.size w1.heap.size 5 _ _ _ (a5) (by omega)).mono ?_;rintro e k6 ⟨rfl,a6⟩;clear m0 m1 m2 m3 m4 m5;obtain ⟨m0,m1,m2,m3,m4,m5⟩:=zA (J.out.below a6.below D);obtain ⟨vf,b6,K⟩:=a6.end_;have HO:=zh K;clear K
   go_wp2_with fail
   go_ret;refine ⟨vf,rfl,BB O.out (Below.mono a6.below (DC _)) (DC _),?_⟩;exact next_fin (HO.out.mono O.out.size) (next_eq _ _ _ _ (up_false (Int.not_le.2 hA)) (up_false (Int.not_lt.2 hB)))
def MZ.n (m:MZ):Int:=m.w*m.h*m.l
theorem mem_ap {c:Bool}:y∈ap c x l↔y∈l\/(c=true/\y=x):=by
 unfold ap
 cases c <;> simp
theorem row_step {w k:Int} (o:0<w) (r:y<w*k) (D:y % w+1<w):y+1<w*k:=by
 have h1:=Int.emod_add_mul_ediv y w
 have h2:y / w<k:=by
  apply Int.ediv_lt_of_lt_mul o
  rwa [Int.mul_comm]
 have d:w*(y / w+1)<=w*k:=Int.mul_le_mul_of_nonneg_left (by omega) (by omega);rw [Int.mul_add,Int.mul_one] at d;omega
theorem layer_step {w h l:Int} (d:0<w) (hh:0<h) (E:y<w*h*l) (D:y / w % h+1<h):y+w<w*h*l:=by
 have r:y / w<h*l:=by
  apply Int.ediv_lt_of_lt_mul d;rw [Int.mul_comm,<-Int.mul_assoc];exact E
 have h1:=row_step hh r D;have h2:=Int.emod_add_mul_ediv y w;have G:=Int.emod_lt_of_pos y d;have o:w*(y / w+2)<=w*(h*l):=Int.mul_le_mul_of_nonneg_left (by omega) (by omega);rw [Int.mul_add,<-Int.mul_assoc] at o;omega
theorem Bx {m:MZ} (d:Dim m) (h0:0<=y) (h1:y<m.n) (h:x∈zu m y):0<=x/\x<m.n:=by
 unfold MZ.n at h1⊢;obtain ⟨l1,l2⟩:=d.layer;have E:=d.w1;have hh:=d.h1;simp only [zu,mem_ap,DO,DM,Ew,false_or] at h;rcases h with ((((( ⟨⟨a,_⟩,rfl⟩) | ⟨a,rfl⟩) | ⟨a,rfl⟩) | ⟨a,rfl⟩) | ⟨a,rfl⟩) | ⟨⟨a,_⟩,rfl⟩
 ·omega
 ·have h2:1<=y / m.w:=by
   have:0<=y / m.w:=Int.ediv_nonneg h0 (by omega);rcases Int.lt_or_le 0 (y / m.w) with h | h
   ·omega
   ·have:y / m.w=0:=by omega
    rw [this] at a;simp at a
  have o:=Int.emod_add_mul_ediv y m.w;have r:=Int.emod_nonneg y (show m.w≠0 by omega);have D:m.w*1<=m.w*(y / m.w):=Int.mul_le_mul_of_nonneg_left h2 (by omega);omega
 ·have:y≠0:=by rintro rfl;simp at a
  omega
 ·have:=row_step (y:=y) (w:=m.w) (k:=m.h*m.l) (by omega) (by rw [<-Int.mul_assoc];exact h1) a;rw [<-Int.mul_assoc] at this;omega
 ·have:=layer_step (by omega) (by omega) h1 a;omega
 ·omega
def zl (m:MZ) (t:Nat) (x:Int):Bool:=(m.free.getD t []).getD x.toNat false
def RP (m:MZ) (t:Nat) (from_ used:List Int) (x:Int):Prop:=
 ∀S:Int->Prop,(∀y∈from_,0<=y->y<m.n->S y)->(∀y z,S y->z∈zu m y->zl m t z=true->z∉used->S z)->S x
theorem RP.base {m:MZ} (h:x∈from_) (h0:0<=x) (h1:x<m.n):RP m t from_ used x:=fun _ d _=>d x h h0 h1
theorem RP.step {m:MZ} (h:RP m t from_ used y) (D:x∈zu m y) (hf:zl m t x=true) (r:x∉used):RP m t from_ used x:=
 fun S o d=>d y x (h S o d) D hf r
theorem RP.range {m:MZ} (d:Dim m) (h:RP m t from_ used x):0<=x/\x<m.n:=
 h (fun x=>0<=x/\x<m.n) (fun y _ h0 h1=>⟨h0,h1⟩) (fun y z o r _ _=>Bx d o.1 o.2 r)
theorem RP.congr {m:MZ} {from' used':List Int} (hf:∀x,x∈from_↔x∈from') (D:∀x,x∈used↔x∈used') (h:RP m t from_ used x):RP m t from' used' x:=
 h _ (fun y o h0 h1=>RP.base ((hf y).1 o) h0 h1) (fun y z o E r d=>o.step E r (fun h=>d ((D z).2 h)))
theorem nodup_nat:∀(n:Nat) (l:List Nat),l.Nodup->(∀x∈l,x<n)->l.length<=n
 | 0,l,_,h=>by
  cases l with
  | nil=>simp
  | cons a l=>exact absurd (h a (En ..)) (by omega)
 | n+1,l,o,h=>by
  by_cases hm:n∈l
  ·have h1:=nodup_nat n (l.erase n) (o.erase n) (fun x d=>by
    have h2:=(o.mem_erase_iff).1 d;have r:=h x h2.2;omega)
   rw [List.length_erase_of_mem hm] at h1;omega
  ·have h1:=nodup_nat n l o (fun x d=>by
    have r:=h x d;have:x≠n:=by rintro rfl;exact hm d
    omega)
   omega
theorem Cn (I:l.Nodup) (n:Int) (o:∀x∈l,0<=x/\x<n):l.length<=n.toNat:=by
 have d:(l.map Int.toNat).Nodup:=by
  rw [List.nodup_iff_pairwise_ne,List.pairwise_map];refine List.Pairwise.imp_of_mem ?_ (List.nodup_iff_pairwise_ne.1 I);intro a b D G E he;have:=o a D;have:=o b G;omega
 have:=nodup_nat n.toNat (l.map Int.toNat) d (fun x r=>by
  rw [Ey] at r;obtain ⟨y,J,rfl⟩:=r;have:=o y J;omega)
 simpa using this
end
end Go.Proofs.YtcnaogdgjkpkmaaGreatDoor
